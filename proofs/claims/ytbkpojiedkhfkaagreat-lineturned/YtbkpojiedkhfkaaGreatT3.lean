/-
  The program with Draw's contract; the contracts of LineTurned's functions in it.
-/
import Derived.Test.YtbkpojiedkhfkaaGreatD2
import Derived.Test.YtbkpojiedkhfkaaGreatUA
import Derived.Test.YtbkpojiedkhfkaaGreatU12
import Derived.Test.YtbkpojiedkhfkaaGreatR6
set_option linter.unusedVariables false
set_option linter.unusedSimpArgs false
set_option maxRecDepth 100000
namespace Go.Z
open Go Go.Abs Go.Proofs
theorem app_vunit_N {b:Nat} {h:Heap} {bb:Bool} {x:GUnit} {o v:Option (List GUnit)} (hv:apO o [x]=some v) (hn:o.isNone=true):appR 2 b h none (some (sl 2 vunit o)) (some (.list bb 2 [.agg [.str x.serial,sl 1 vint x.values]]))=ifR (decide (b≤4096)) (some ⟨sl 2 vunit v,true,none,h⟩):=app_none (x:=x) (by omega) rfl hn hv
noncomputable def prT:AProg:=withP pr moreL fun k=>Nat.beq k 8
theorem okT:ProgOk Tryz.prog prT:=withP_ok okPr (by
 intro k f hf
 simp only [moreL,Bool.cond_eq_ite] at hf
 split at hf
 ·next hb=>
  cases hf
  have:=Nat.eq_of_beq_eq_true hb
  subst this
  exact ⟨okPr.enters (show pr.fns 55=some c55 from rfl),fun args v o h _ hb=>drawT_ok h hb⟩
 ·cases hf)
theorem atT {k:Nat} (hk:(Nat.beq k 55 || Nat.beq k 8)=false) {args:List AVal} {v:AVal} {o:Bool} (h:callIso pr (X pr) k args=some (v,o)) (hv:below 0 v=true):callIso prT (X prT) k args=some (v,o):=by
 have h2:=Bool.or_eq_false_iff.1 hk
 exact withP_call (op:=fun k=>Nat.beq k 8) h2.2 (show moreL k=none by unfold moreL; rw [h2.1]; rfl) h hv
theorem WT55 {a n r} (h:E55 a n=some r):callIso prT (X prT) 55 [.int .i64 a,.int .i64 n]=some (sl 1 vint r,false):=by
 refine withP_more (f:=drawT) rfl rfl ?_ (show below 0 _=true from by simp only [go_sem,seval])
 unfold E55 at h
 show (if n=0 then some (sl 1 vint none,false) else (f55 a n).map fun r=>(sl 1 vint (some r),false))=_
 split at h
 ·rename_i hn
  rw [if_pos hn]; cases h; rfl
 ·rename_i hn
  rw [if_neg hn]
  simp only [Option.map_eq_some_iff] at h
  obtain ⟨l,h1,rfl⟩:=h
  rw [h1]; rfl
theorem TWE14 {r} (h:E14=some r):callIso prT (X prT) 14 []=some (.bool r,false):=atT rfl (WE14 h) rfl
theorem TWE22w {o r} (h:E22w o=some r):callIso prT (X prT) 22 [sl 2 vunit o]=some (.int .i64 r,false):=atT rfl (WE22w h) rfl
theorem TW54 {a0:Option (List GUnit)} {a1:Int} {r} (h:f54 a0 a1=some r):callIso prT (X prT) 54 [sl 2 vunit a0,.int .i64 a1]=some (.bool r,false):=atT rfl (W54 h) rfl
theorem TWE18 {o r} (h:E18 o=some r):callIso prT (X prT) 18 [sl 2 vunit o]=some (sl 2 vunit r,accO (o.getD [])):=atT rfl (WE18 h) (by simp only [go_sem,seval])
theorem TW56 {a0:Option (List GUnit)} {r} (h:f56 a0=some r):callIso prT (X prT) 56 [sl 2 vunit a0]=some (.tup [sl 2 vpair r.1,.int .i64 r.2.1,.int .i64 r.2.2],false):=atT rfl (W56 h) (by simp only [go_sem,seval])
theorem TW57 {a0:Option (List GUnit)} {r} (h:f57 a0=some r):callIso prT (X prT) 57 [sl 2 vunit a0]=some (.tup [.int .i64 r.1,.int .i64 r.2],false):=atT rfl (W57 h) (by simp only [go_sem,seval])
theorem TW58 {a0 a1:GUnit} {r} (h:f58 a0 a1=some r):callIso prT (X prT) 58 [.agg [.str a0.serial,sl 1 vint a0.values],.agg [.str a1.serial,sl 1 vint a1.values]]=some (.int .i64 r,false):=atT rfl (W58 h) rfl
theorem TWE32 {u r} (h:E32 u=some r):callIso prT (X prT) 32 [.agg [.str u.serial,sl 1 vint u.values]]=some (.agg [.str r.serial,sl 1 vint r.values],false):=atT rfl (WE32 h) (by simp only [go_sem,seval])
theorem TW59 {a0 a1:GUnit} {r} (h:f59 a0 a1=some r):callIso prT (X prT) 59 [.agg [.str a0.serial,sl 1 vint a0.values],.agg [.str a1.serial,sl 1 vint a1.values]]=some (.tup [.int .i64 r.1,.int .i64 r.2],false):=atT rfl (W59 h) (by simp only [go_sem,seval])
end Go.Z
/-
 LineTurned: units that are valid,in another order,and with other values.
-/
namespace Go.Z
open Go Go.Abs
theorem stepU_zero {n0:Int} {seen:List (List UInt8)} {u:GUnit}:stepU n0 seen u=0↔unitE u=0∧lenU u=n0∧u.serial ∉ seen:=by
 constructor
 ·intro h
  have h1:=firstNZ_zero h _ (List.mem_cons_self ..)
  have h2:=whenE_zero (by decide) (firstNZ_zero h _ (List.mem_cons_of_mem _ (List.mem_cons_self ..)))
  have h3:=whenE_zero (by decide) (firstNZ_zero h _ (List.mem_cons_of_mem _ (List.mem_cons_of_mem _ (List.mem_cons_self ..))))
  exact ⟨h1,by simpa using h2,by simpa using h3⟩
 ·rintro ⟨h1,h2,h3⟩
  unfold stepU
  simp only [h1,h2,h3,decide_true,decide_false,Bool.not_true]
  rfl
theorem firstU_zero {n0:Int}:∀ {l:List GUnit} {seen:List (List UInt8)},firstU n0 seen l=0↔(∀ u∈l,unitE u=0∧lenU u=n0)∧(l.map (·.serial)).Nodup∧∀ u∈l,u.serial ∉ seen
 | [],seen=>by simp [firstU]
 | x::l,seen=>by
  unfold firstU
  rw [List.map_cons,List.nodup_cons]
  by_cases hz:stepU n0 seen x=0
  ·rw [if_pos hz,firstU_zero]
   obtain ⟨z1,z2,z3⟩:=stepU_zero.1 hz
   constructor
   ·rintro ⟨h1,h2,h3⟩
    refine ⟨fun u hu=>?_,⟨fun hm=>?_,h2⟩,fun u hu=>?_⟩
    ·rcases List.mem_cons.1 hu with rfl | hu
     ·exact ⟨z1,z2⟩
     ·exact h1 u hu
    ·obtain ⟨w,hw,e⟩:=List.mem_map.1 hm
     exact h3 w hw (by rw [show w.serial=x.serial from e]; simp)
    ·rcases List.mem_cons.1 hu with rfl | hu
     ·exact z3
     ·exact fun hm=>h3 u hu (List.mem_append_left _ hm)
   ·rintro ⟨h1,⟨h2,h3⟩,h4⟩
    refine ⟨fun u hu=>h1 u (List.mem_cons_of_mem _ hu),h3,fun u hu hm=>?_⟩
    rcases List.mem_append.1 hm with hm | hm
    ·exact h4 u (List.mem_cons_of_mem _ hu) hm
    ·simp only [List.mem_singleton] at hm
     exact h2 (List.mem_map.2 ⟨u,hu,hm⟩)
  ·rw [if_neg hz]
   constructor
   ·intro h; exact absurd h hz
   ·rintro ⟨h1,_,h4⟩
    have:=h1 x (List.mem_cons_self ..)
    exact absurd (stepU_zero.2 ⟨this.1,this.2,h4 x (List.mem_cons_self ..)⟩) hz
theorem unitsE_iff {l:List GUnit}:unitsE l=0↔l.length≤64∧(∀ u∈l,unitE u=0)∧(∀ u∈l,∀ w∈l,lenU u=lenU w)∧(l.map (·.serial)).Nodup:=by
 unfold unitsE
 by_cases h64:l.length≤64
 ·rw [if_pos h64,firstU_zero]
  constructor
  ·rintro ⟨h1,h2,_⟩
   exact ⟨h64,fun u hu=>(h1 u hu).1,fun u hu w hw=>by rw [(h1 u hu).2,(h1 w hw).2],h2⟩
  ·rintro ⟨_,h1,h2,h3⟩
   refine ⟨fun u hu=>⟨h1 u hu,?_⟩,h3,fun u _ hm=>by cases hm⟩
   cases l with
   | nil=>cases hu
   | cons x l=>exact h2 u hu x (List.mem_cons_self ..)
 ·rw [if_neg h64]
  constructor
  ·intro h; cases h
  ·rintro ⟨h,_⟩; exact absurd h h64
theorem unitsE_perm {l l':List GUnit} (hp:l'.Perm l) (h:unitsE l=0):unitsE l'=0:=by
 rw [unitsE_iff] at h ⊢
 obtain ⟨h1,h2,h3,h4⟩:=h
 exact ⟨by rw [hp.length_eq]; exact h1,fun u hu=>h2 u (hp.mem_iff.1 hu),fun u hu w hw=>h3 u (hp.mem_iff.1 hu) w (hp.mem_iff.1 hw),(hp.map _).nodup_iff.2 h4⟩
theorem unitsE_map {l:List GUnit} {f:GUnit→GUnit} (hs:∀ u,(f u).serial=u.serial) (he:∀ u∈l,unitE (f u)=0) (hl:∀ u,lenU (f u)=lenU u) (h:unitsE l=0):unitsE (l.map f)=0:=by
 rw [unitsE_iff] at h ⊢
 obtain ⟨h1,h2,h3,h4⟩:=h
 refine ⟨by rw [List.length_map]; exact h1,fun u hu=>?_,fun u hu w hw=>?_,?_⟩
 ·obtain ⟨x,hx,rfl⟩:=List.mem_map.1 hu
  exact he x hx
 ·obtain ⟨x,hx,rfl⟩:=List.mem_map.1 hu
  obtain ⟨y,hy,rfl⟩:=List.mem_map.1 hw
  rw [hl,hl]; exact h3 x hx y hy
 ·rw [List.map_map]
  have:((fun u:GUnit=>u.serial) ∘ f)=fun u=>u.serial:=by funext u; exact hs u
  rw [this]; exact h4
theorem checkEach_of {lo hi:Int}:∀ {l:List Int},(∀ x∈l,lo≤x∧x≤hi)→checkEach lo hi l=0
 | [],_=>rfl
 | x::l,h=>by
  have hx:=h x (List.mem_cons_self ..)
  unfold checkEach
  have:checkRange x lo hi=0:=by unfold checkRange; rw [if_neg (by omega),if_neg (by omega)]
  rw [if_pos this]
  exact checkEach_of fun y hy=>h y (List.mem_cons_of_mem _ hy)
def mapU (f:Int→Int) (u:GUnit):GUnit:=⟨u.serial,nonNil ((u.values.getD []).map f)⟩
theorem mapU_vals (f:Int→Int) (u:GUnit):(mapU f u).values.getD []=(u.values.getD []).map f:=nonNil_get' _
theorem mapU_ok {f:Int→Int} {u:GUnit} (h:unitE u=0) (hf:∀ v∈u.values.getD [],-100000≤f v∧f v≤100000):unitE (mapU f u)=0:=by
 have hl:((mapU f u).values.getD []).length=(u.values.getD []).length:=by rw [mapU_vals,List.length_map]
 have hc:checkEach (-100000) 100000 ((mapU f u).values.getD [])=0:=by
  rw [mapU_vals]
  refine checkEach_of fun x hx=>?_
  obtain ⟨v,hv,rfl⟩:=List.mem_map.1 hx
  exact hf v hv
 have h1:=firstNZ_zero h _ (List.mem_cons_self ..)
 have h2:=firstNZ_zero h _ (List.mem_cons_of_mem _ (List.mem_cons_self ..))
 have h3:=firstNZ_zero h _ (List.mem_cons_of_mem _ (List.mem_cons_of_mem _ (List.mem_cons_self ..)))
 unfold unitE
 rw [hl,hc,show (mapU f u).serial=u.serial from rfl,h1,h2,h3]
 rfl
theorem mapU_units {f:Int→Int} {l:List GUnit} (h:unitsE l=0) (hf:∀ u∈l,∀ v∈u.values.getD [],-100000≤f v∧f v≤100000):unitsE (l.map (mapU f))=0:=by
 refine unitsE_map (fun u=>rfl) (fun u hu=>mapU_ok (units_each h u hu).1 (hf u hu)) (fun u=>?_) h
 unfold lenU
 rw [mapU_vals,List.length_map]
theorem fold_mapD {f:Int→Int} (hf:∀ s v w,stepD s (f v,f w)=stepD s (v,w)):∀ (xs ys:List Int) (s:Int),((xs.map f).zip (ys.map f)).foldl stepD s=(xs.zip ys).foldl stepD s
 | [],ys,s=>rfl
 | x::xs,[],s=>rfl
 | x::xs,y::ys,s=>by
  show ((xs.map f).zip (ys.map f)).foldl stepD (stepD s (f x,f y))=(xs.zip ys).foldl stepD (stepD s (x,y))
  rw [hf,fold_mapD hf]
theorem diffU_map {f:Int→Int} (hf:∀ s v w,stepD s (f v,f w)=stepD s (v,w)) (u w:GUnit):diffU (mapU f u) (mapU f w)=diffU u w:=by
 unfold diffU
 rw [mapU_vals,mapU_vals,fold_mapD hf]
theorem dAt_map {f:Int→Int} (hf:∀ s v w,stepD s (f v,f w)=stepD s (v,w)) (l:List GUnit) (i j:Int):dAt (l.map (mapU f)) i j=dAt l i j:=by
 unfold dAt
 rw [List.getElem?_map,List.getElem?_map]
 cases l[i.toNat]? with
 | none=>rfl
 | some u=>
  cases l[j.toNat]? with
  | none=>rfl
  | some w=>exact diffU_map hf u w
theorem bestP_dAt {l l':List GUnit} (h:∀ i j,dAt l' i j=dAt l i j):∀ (m:Nat) (left:List Int) (p:List GPair),bestP l' m left p=bestP l m left p
 | 0,left,p=>by
  unfold bestP worstP
  have:(fun (s:Int) (q:GPair)=>max s (dAt l' q.a q.b))=fun s q=>max s (dAt l q.a q.b):=by funext s q; rw [h]
  rw [this]
 | m + 1,left,p=>by
  unfold bestP
  have:(fun (st:Option PSch) (b:Int)=>updG st (bestP l' m (left.tail.filter fun x=>x != b) (p++[⟨left.headD 0,b⟩])))=fun st b=>updG st (bestP l m (left.tail.filter fun x=>x != b) (p++[⟨left.headD 0,b⟩])):=by
   funext st b; rw [bestP_dAt h m]
  rw [this]
theorem diffU_same (u:GUnit):diffU u u=0:=by
 have:∀ xs:List Int,(xs.zip xs).foldl stepD 0=0:=by
  intro xs
  induction xs with
  | nil=>rfl
  | cons x xs ih=>
   show (xs.zip xs).foldl stepD (stepD 0 (x,x))=0
   have:stepD 0 (x,x)=0:=by unfold stepD; dsimp only; omega
   rw [this]; exact ih
 exact this _
theorem fold_tri:∀ (xs ys zs:List Int) (s1 s2 s3:Int),xs.length=ys.length→xs.length=zs.length→s1≤s2 + s3→(xs.zip ys).foldl stepD s1≤(xs.zip zs).foldl stepD s2 + (zs.zip ys).foldl stepD s3
 | [],ys,zs,s1,s2,s3,h1,h2,h=>by
  have:ys=[]:=List.length_eq_zero_iff.1 (by simpa using h1.symm)
  have h3:zs=[]:=List.length_eq_zero_iff.1 (by simpa using h2.symm)
  subst this; subst h3
  exact h
 | x::xs,[],zs,s1,s2,s3,h1,h2,h=>by simp at h1
 | x::xs,y::ys,[],s1,s2,s3,h1,h2,h=>by simp at h2
 | x::xs,y::ys,z::zs,s1,s2,s3,h1,h2,h=>by
  show (xs.zip ys).foldl stepD (stepD s1 (x,y))≤(xs.zip zs).foldl stepD (stepD s2 (x,z)) + (zs.zip ys).foldl stepD (stepD s3 (z,y))
  refine fold_tri xs ys zs _ _ _ (by simpa using h1) (by simpa using h2) ?_
  unfold stepD
  dsimp only
  omega
theorem diffU_tri {l:List GUnit} (hu:UnitsOk l) {a b c:GUnit} (ha:a∈l) (hb:b∈l) (hc:c∈l):diffU a b≤diffU a c + diffU c b:=
 fold_tri _ _ _ 0 0 0 (hu.same a ha b hb) (hu.same a ha c hc) (by omega)
theorem fold_max_le {c:Int}:∀ (l:List Int) (s:Int),l.foldl max s≤c↔s≤c∧∀ x∈l,x≤c
 | [],s=>by simp
 | x::l,s=>by
  rw [List.foldl_cons,fold_max_le l]
  constructor
  ·rintro ⟨h1,h2⟩
   exact ⟨by omega,fun y hy=>by
    rcases List.mem_cons.1 hy with rfl | hy
    ·omega
    ·exact h2 y hy⟩
  ·rintro ⟨h1,h2⟩
   have:=h2 x (List.mem_cons_self ..)
   exact ⟨by omega,fun y hy=>h2 y (List.mem_cons_of_mem _ hy)⟩
theorem fold_max_perm {l l':List Int} (hp:l'.Perm l) (s:Int):l'.foldl max s=l.foldl max s:=by
 apply Int.le_antisymm
 ·rw [fold_max_le]
  have:=(fold_max_le (c:=l.foldl max s) l s).1 (Int.le_refl _)
  exact ⟨this.1,fun x hx=>this.2 x (hp.mem_iff.1 hx)⟩
 ·rw [fold_max_le]
  have:=(fold_max_le (c:=l'.foldl max s) l' s).1 (Int.le_refl _)
  exact ⟨this.1,fun x hx=>this.2 x (hp.mem_iff.2 hx)⟩
theorem radius_perm {l l':List GUnit} (hp:l'.Perm l) (u:GUnit):radius l' u=radius l u:=fold_max_perm (hp.map _) 0
theorem filter_len2 {t:List Nat} (hnt:t.Nodup) {b:Nat} (hb:b∈t):(t.filter fun x=>!Nat.beq x b).length + 1=t.length:=by
 have e:(t.filter fun x=>!Nat.beq x b)=t.erase b:=by
  rw [hnt.erase_eq_filter]
  apply List.filter_congr
  intro x _
  cases hx:Nat.beq x b with
  | true=>rw [Nat.eq_of_beq_eq_true hx]; simp
  | false=>
   have:x ≠ b:=fun e=>by rw [e,Nat.beq_refl] at hx; cases hx
   simp [this]
 rw [e,List.length_erase_of_mem hb]
 have:=List.length_pos_of_mem hb
 omega
theorem mem_filter2 {t:List Nat} {b x:Nat}:x∈(t.filter fun x=>!Nat.beq x b)↔x∈t∧x ≠ b:=by
 rw [List.mem_filter]
 constructor
 ·rintro ⟨h1,h2⟩
  refine ⟨h1,fun e=>?_⟩
  rw [e,Nat.beq_refl] at h2
  cases h2
 ·rintro ⟨h1,h2⟩
  refine ⟨h1,?_⟩
  cases hx:Nat.beq x b with
  | true=>exact absurd (Nat.eq_of_beq_eq_true hx) h2
  | false=>rfl
def PairF (l:List GUnit) (below:Int) (t:List Nat) (f:Nat→Nat):Prop:=∀ i∈t,f i∈t∧f i ≠ i∧f (f i)=i∧near l below (i:Int) (f i:Int)=true
theorem pm_fun {l:List GUnit} {below:Int}:∀ (k:Nat) (t:List Nat),t.length=2 * k→t.Nodup→pmB l below k t=true→∃ f,PairF l below t f
 | 0,t,ht,_,_=>by
  have h0:t=[]:=List.length_eq_zero_iff.1 (by omega)
  subst h0
  exact ⟨id,fun i hi=>by cases hi⟩
 | k + 1,[],ht,_,_=>by simp at ht
 | k + 1,a::t,ht,hn,h=>by
  obtain ⟨ha,hnt⟩:=List.nodup_cons.1 hn
  rw [pmB_succ,List.any_eq_true] at h
  obtain ⟨b,hb,h⟩:=h
  rw [Bool.and_eq_true] at h
  have hlen:=filter_len2 hnt hb
  simp only [List.length_cons] at ht
  obtain ⟨f,hf⟩:=pm_fun (l:=l) (below:=below) k _ (by omega) (hnt.sublist (List.filter_sublist ..)) h.2
  have hab:a ≠ b:=fun e=>ha (e ▸ hb)
  refine ⟨fun i=>if i=a then b else if i=b then a else f i,fun i hi=>?_⟩
  by_cases hia:i=a
  ·subst hia
   simp only [if_true]
   rw [if_neg (Ne.symm hab)]
   exact ⟨List.mem_cons_of_mem _ hb,Ne.symm hab,rfl,h.1⟩
  ·have hit:i∈t:=by
    rcases List.mem_cons.1 hi with e | e
    ·exact absurd e hia
    ·exact e
   by_cases hib:i=b
   ·subst hib
    simp only [if_true,if_neg hia]
    exact ⟨List.mem_cons_self ..,hab,trivial,by rw [near_symm]; exact h.1⟩
   ·obtain ⟨g1,g2,g3,g4⟩:=hf i (mem_filter2.2 ⟨hit,hib⟩)
    obtain ⟨g5,g6⟩:=mem_filter2.1 g1
    have g7:f i ≠ a:=fun e=>ha (e ▸ g5)
    simp only [if_neg hia,if_neg hib,if_neg g7,if_neg g6]
    exact ⟨List.mem_cons_of_mem _ g5,g2,g3,g4⟩
theorem fun_pm {l:List GUnit} {below:Int} {f:Nat→Nat}:∀ (k:Nat) (t:List Nat),t.length=2 * k→t.Nodup→PairF l below t f→pmB l below k t=true
 | 0,t,ht,_,_=>by
  have h0:t=[]:=List.length_eq_zero_iff.1 (by omega)
  subst h0
  rfl
 | k + 1,[],ht,_,_=>by simp at ht
 | k + 1,a::t,ht,hn,h=>by
  obtain ⟨ha,hnt⟩:=List.nodup_cons.1 hn
  obtain ⟨h1,h2,h3,h4⟩:=h a (List.mem_cons_self ..)
  have hb:f a∈t:=by
   rcases List.mem_cons.1 h1 with e | e
   ·exact absurd e h2
   ·exact e
  have hlen:=filter_len2 hnt hb
  simp only [List.length_cons] at ht
  rw [pmB_succ,List.any_eq_true]
  refine ⟨f a,hb,?_⟩
  rw [Bool.and_eq_true]
  refine ⟨h4,fun_pm (f:=f) k _ (by omega) (hnt.sublist (List.filter_sublist ..)) fun i hi=>?_⟩
  obtain ⟨hit,hib⟩:=mem_filter2.1 hi
  obtain ⟨g1,g2,g3,g4⟩:=h i (List.mem_cons_of_mem _ hit)
  have hia:i ≠ a:=fun e=>ha (e ▸ hit)
  have q1:f i ≠ a:=fun e=>hib (by rw [← g3,e])
  have q2:f i ≠ f a:=fun e=>hia (by rw [← g3,e,h3])
  have q3:f i∈t:=by
   rcases List.mem_cons.1 g1 with e | e
   ·exact absurd e q1
   ·exact e
  exact ⟨mem_filter2.2 ⟨q3,q2⟩,g2,g3,g4⟩
theorem pmB_turn {l l':List GUnit} {below:Int} {n k:Nat} (hk:n=2 * k) {s g:Nat→Nat} (hs:∀ i,i < n→s i < n∧g (s i)=i) (hg:∀ y,y < n→g y < n∧s (g y)=y)
  (hn:∀ i j,i < n→j < n→near l' below (i:Int) (j:Int)=near l below (s i:Int) (s j:Int)) (h:pmB l below k (List.range n)=true):pmB l' below k (List.range n)=true:=by
 have hl:(List.range n).length=2 * k:=by rw [List.length_range]; exact hk
 obtain ⟨f,hf⟩:=pm_fun k _ hl List.nodup_range h
 refine fun_pm (f:=fun i=>g (f (s i))) k _ hl List.nodup_range fun i hi=>?_
 have hi:=List.mem_range.1 hi
 obtain ⟨h1,h2,h3,h4⟩:=hf (s i) (List.mem_range.2 (hs i hi).1)
 have h1:=List.mem_range.1 h1
 refine ⟨List.mem_range.2 (hg _ h1).1,fun e=>?_,?_,?_⟩
 ·have:=(hg _ h1).2
  rw [show g (f (s i))=i from e] at this
  exact h2 this.symm
 ·show g (f (s (g (f (s i)))))=i
  rw [(hg _ h1).2,h3,(hs i hi).2]
 ·show near l' below (i:Int) ((g (f (s i)):Nat):Int)=true
  rw [hn i _ hi (hg _ h1).1,(hg _ h1).2]
  exact h4
theorem best_turn {l l':List GUnit} (hu:UnitsOk l) (hu':UnitsOk l') (hll:l'.length=l.length) (h2:l.length % 2=0) {s g:Nat→Nat} (hs:∀ i,i < l.length→s i < l.length∧g (s i)=i) (hg:∀ y,y < l.length→g y < l.length∧s (g y)=y)
  (hat:∀ i,i < l.length→l'[i]?=l[s i]?):(bestP l' (l.length / 2) (allI l.length) []).2=(bestP l (l.length / 2) (allI l.length) []).2:=by
 have hd:∀ i j,i < l.length→j < l.length→dAt l' (i:Int) (j:Int)=dAt l (s i:Int) (s j:Int):=by
  intro i j hi hj
  unfold dAt
  simp only [Int.toNat_natCast,hat i hi,hat j hj]
 have hn:∀ below i j,i < l.length→j < l.length→near l' below (i:Int) (j:Int)=near l below (s i:Int) (s j:Int):=by
  intro below i j hi hj
  unfold near
  rw [hd i j hi hj]
 have hn':∀ below i j,i < l.length→j < l.length→near l below (i:Int) (j:Int)=near l' below (g i:Int) (g j:Int):=by
  intro below i j hi hj
  rw [hn below _ _ (hg i hi).1 (hg j hj).1,(hg i hi).2,(hg j hj).2]
 have hk:l.length=2 * (l.length / 2):=by omega
 obtain ⟨_,_,_,b1,_⟩:=best_accepted hu h2
 obtain ⟨_,_,_,b2,_⟩:=best_accepted hu' (by rw [hll]; exact h2)
 rw [hll] at b2
 have key:∀ below,0 < below→((bestP l' (l.length / 2) (allI l.length) []).2 < below↔(bestP l (l.length / 2) (allI l.length) []).2 < below):=by
  intro below hb
  have e1:=best_below (l:=l') (below:=below) (by rw [hll]; exact h2) hb
  rw [hll] at e1
  rw [e1,best_below h2 hb]
  exact ⟨fun h=>pmB_turn hk hg hs (hn' below) h,fun h=>pmB_turn hk hs hg (hn below) h⟩
 by_cases hlt:(bestP l' (l.length / 2) (allI l.length) []).2 < (bestP l (l.length / 2) (allI l.length) []).2
 ·have:=(key _ (by omega)).1 hlt
  omega
 ·by_cases hgt:(bestP l (l.length / 2) (allI l.length) []).2 < (bestP l' (l.length / 2) (allI l.length) []).2
  ·have:=(key _ (by omega)).2 hgt
   omega
  ·omega
end Go.Z
