/-
  Parts of a set of numbers that hang together: what a part is; two parts of one number have as many.
-/
import Derived.Test.YtbkpojiedkhfkaaGreatQ1
import Derived.Test.YtbkpojiedkhfkaaGreatV3
import Derived.Test.YtbkpojiedkhfkaaGreatV1
set_option linter.unusedVariables false
set_option linter.unusedSimpArgs false
set_option maxRecDepth 100000
namespace Go.Z
open Go Go.Abs
theorem nodup_sub_len:∀ {l m:List Int},l.Nodup→(∀ x∈l,x∈m)→l.length≤m.length
 | [],m,_,_=>Nat.zero_le _
 | a::t,m,h,hs=>by
  obtain ⟨h1,h2⟩:=List.nodup_cons.1 h
  have ha:=hs a (List.mem_cons_self ..)
  have hlen:(m.erase a).length=m.length - 1:=List.length_erase_of_mem ha
  have hpos:0 < m.length:=List.length_pos_of_mem ha
  have:=nodup_sub_len (m:=m.erase a) h2 fun x hx=>by
   have hne:x ≠ a:=fun e=>h1 (e ▸ hx)
   exact (List.mem_erase_of_ne hne).2 (hs x (List.mem_cons_of_mem _ hx))
  simp only [List.length_cons]
  omega
structure IsPart (adj:Int→Int→Bool) (L:Int→Prop) (i:Int) (C:List Int):Prop where
 nd:C.Nodup
 has:i∈C
 ins:∀ x∈C,L x
 closed:∀ x∈C,∀ y,L y→adj x y=true→y∈C
 least:∀ E:Int→Prop,E i→(∀ x,E x→∀ y,L y→adj x y=true→E y)→∀ x∈C,E x
variable {adj:Int→Int→Bool} {L L':Int→Prop} {i:Int} {C C':List Int}
theorem IsPart.mem (h:IsPart adj L i C) (h':IsPart adj L' i C') (hL:∀ x,L x↔L' x) {x:Int} (hx:x∈C):x∈C':=
 h.least (·∈C') h'.has (fun x hx y hy ha=>h'.closed x hx y ((hL y).1 hy) ha) x hx
theorem IsPart.same (h:IsPart adj L i C) (h':IsPart adj L' i C') (hL:∀ x,L x↔L' x):(∀ x,x∈C↔x∈C')∧C.length=C'.length:=by
 have h1:∀ x∈C,x∈C':=fun x hx=>h.mem h' hL hx
 have h2:∀ x∈C',x∈C:=fun x hx=>h'.mem h (fun x=>(hL x).symm) hx
 exact ⟨fun x=>⟨h1 x,h2 x⟩,Nat.le_antisymm (nodup_sub_len h.nd h1) (nodup_sub_len h'.nd h2)⟩
def near (l:List GUnit) (below:Int) (x y:Int):Bool:=decide (dAt l x y < below)
end Go.Z
/-
 LineProofs: the product's part is the part that hangs together,and is taken out of the set.
-/
namespace Go.Z
open Go Go.Abs
theorem memI_iff {m:List Int} {x:Int}:memI m x=true↔x∈m:=by
 unfold memI; rw [List.contains_eq_mem]; simp
theorem memI_not {m:List Int} {x:Int}:memI m x=false↔x ∉ m:=by
 unfold memI; rw [List.contains_eq_mem]; simp
set_option maxHeartbeats 1000000 in
theorem part_eq {l:List GUnit} {o:Option (List GUnit)} {below:Int} (hu:UnitsOk l) (ho:o.getD []=l) (hl:l.length≤100):
  ∀ (k:Nat) (m:List Int) (frm:Int),m.length≤k→m.Nodup→(∀ x∈m,0≤x∧x < (l.length:Int))→frm∈m →
   ∃ (D m':List Int),f144 k o below frm m=some ((D.length:Int),m')∧IsPart (near l below) (·∈m) frm D∧m'.Nodup∧∀ x,x∈m'↔x∈m∧x ∉ D
 | 0,m,frm,hk,_,_,hf=>by
  have:=List.length_pos_of_mem hf
  omega
 | k + 1,m,frm,hk,hnd,hb,hf=>by
  have ih:=part_eq (below:=below) hu ho hl k
  have hbf:=hb frm hf
  have hml:m.length≤l.length:=by
   have:=nodup_sub_len (m:=(List.range l.length).map fun (i:Nat)=>(i:Int)) hnd fun x hx=>by
    have:=hb x hx
    exact List.mem_map.2 ⟨x.toNat,List.mem_range.2 (by omega),by omega⟩
   simpa using this
  let Inv:Int × Int × List Int→Prop:=fun s=>∃ (n:Nat) (D:List Int),s.2.1=(n:Int)∧n≤l.length∧s.1=(D.length:Int)∧D.Nodup∧frm∈D∧(∀ x∈D,x∈m)∧s.2.2.Nodup∧(∀ x,x∈s.2.2↔x∈m∧x ∉ D) ∧
   (∀ E:Int→Prop,E frm→(∀ x,E x→∀ y,y∈m→near l below x y=true→E y)→∀ x∈D,E x) ∧
   (∀ x∈D,x ≠ frm→∀ y∈m,near l below x y=true→y∈D)∧(∀ y∈m,y < (n:Int)→near l below frm y=true→y∈D)
  have key:=itO_total (f:=s144 (f144 k) o below frm) Inv (fun d=>∃ D:List Int,d.1=(D.length:Int)∧IsPart (near l below) (·∈m) frm D∧d.2.2.Nodup∧∀ x,x∈d.2.2↔x∈m∧x ∉ D) (fun s=>l.length - s.2.1.toNat) (by
   rintro ⟨c,i,mi⟩ ⟨n,D,h1,h2,h3,h4,h5,h6,h7,h8,h9,h10,h11⟩
   simp only at h1 h3 h7 h8
   subst h1
   have hDl:D.length≤m.length:=nodup_sub_len h4 h6
   by_cases hlt:n < l.length
   ·refine .inl ?_
    have hlt':(n:Int) < (l.length:Int):=by omega
    have hw:wrapF .i64 ((n:Int) + 1)=((n + 1:Nat):Int):=wrap_nat (by omega)
    have hmiL:mi.length≤m.length - 1:=by
     have hlt2:mi.length + 1≤m.length:=by
      have:=nodup_sub_len (l:=frm::mi) (m:=m) (List.nodup_cons.2 ⟨fun h=>((h8 frm).1 h).2 h5,h7⟩) (fun x hx=>by
       rcases List.mem_cons.1 hx with rfl | hx
       ·exact hf
       ·exact ((h8 x).1 hx).1)
      simpa using this
     omega
    obtain ⟨w,u,g1,g2,g3⟩:=d_at hu hbf.1 hbf.2 (show (0:Int)≤(n:Int) by omega) hlt'
    -- nothing is taken here
    have stay:near l below frm (n:Int)=false∨(n:Int) ∉ mi→s144 (f144 k) o below frm (c,(n:Int),mi)=some (.inl (c,((n + 1:Nat):Int),mi))→∃ s',s144 (f144 k) o below frm (c,(n:Int),mi)=some (.inl s')∧Inv s'∧l.length - s'.2.1.toNat < l.length - (n:Int).toNat:=by
     intro hno hs
     refine ⟨_,hs,⟨n + 1,D,rfl,by omega,h3,h4,h5,h6,h7,h8,h9,h10,fun y hy hyn hya=>?_⟩,by simp only; omega⟩
     by_cases hyn2:y=(n:Int)
     ·subst hyn2
      rcases hno with hno | hno
      ·rw [hno] at hya; cases hya
      ·by_cases hyD:(n:Int)∈D
       ·exact hyD
       ·exact absurd ((h8 _).2 ⟨hy,hyD⟩) hno
     ·exact h11 y hy (by omega) hya
    by_cases hin:(n:Int)∈mi
    ·have hmm:=memI_iff.2 hin
     by_cases hnear:dAt l frm (n:Int) < below
     ·have hna:near l below frm (n:Int)=true:=by unfold near; simp [hnear]
      obtain ⟨D',m',e1,e2,e3,e4⟩:=ih mi (n:Int) (by omega) h7 (fun x hx=>hb x ((h8 x).1 hx).1) hin
      have hw2:wrapF .i64 (c + (D'.length:Int))=((D++D').length:Int):=by
       have hD'l:D'.length≤mi.length:=nodup_sub_len e2.nd e2.ins
       rw [h3,wrapF_i64 (by omega) (by omega),List.length_append]; omega
      have hs:s144 (f144 k) o below frm (c,(n:Int),mi)=some (.inl (((D++D').length:Int),((n + 1:Nat):Int),m')):=by
       unfold s144
       simp only [ho,hlt',decide_true,cond_true,g2,obind_at,hmm,g1,g3,hnear,e1,hw,hw2]
      have hdis:∀ x∈D',x ∉ D:=fun x hx=>((h8 x).1 (e2.ins x hx)).2
      refine ⟨_,hs,⟨n + 1,D++D',rfl,by omega,rfl,?_,List.mem_append_left _ h5,?_,e3,?_,?_,?_,?_⟩,by simp only; omega⟩
      ·exact List.nodup_append.2 ⟨h4,e2.nd,fun a ha b hb hab=>hdis b hb (hab ▸ ha)⟩
      ·intro x hx
       rcases List.mem_append.1 hx with hx | hx
       ·exact h6 x hx
       ·exact ((h8 x).1 (e2.ins x hx)).1
      ·intro x
       rw [e4,h8,List.mem_append]
       constructor
       ·rintro ⟨⟨a,b⟩,c⟩; exact ⟨a,fun h=>h.elim b c⟩
       ·rintro ⟨a,b⟩; exact ⟨⟨a,fun h=>b (.inl h)⟩,fun h=>b (.inr h)⟩
      ·intro E hE hcl x hx
       rcases List.mem_append.1 hx with hx | hx
       ·exact h9 E hE hcl x hx
       ·exact e2.least E (hcl frm hE _ ((h8 _).1 hin).1 hna) (fun x hx y hy hxy=>hcl x hx y ((h8 y).1 hy).1 hxy) x hx
      ·intro x hx hxf y hy hxy
       rcases List.mem_append.1 hx with hx | hx
       ·exact List.mem_append_left _ (h10 x hx hxf y hy hxy)
       ·by_cases hyD:y∈D
        ·exact List.mem_append_left _ hyD
        ·exact List.mem_append_right _ (e2.closed x hx y ((h8 y).2 ⟨hy,hyD⟩) hxy)
      ·intro y hy hyn hya
       by_cases hyn2:y=(n:Int)
       ·subst hyn2; exact List.mem_append_right _ e2.has
       ·exact List.mem_append_left _ (h11 y hy (by omega) hya)
     ·refine stay (.inl (by unfold near; simp [hnear])) ?_
      unfold s144
      simp only [ho,hlt',decide_true,cond_true,g2,obind_at,hmm,g1,g3,hnear,decide_false,cond_false,hw]
    ·have hmm:=memI_not.2 hin
     refine stay (.inr hin) ?_
     unfold s144
     simp only [ho,hlt',decide_true,cond_true,g2,obind_at,hmm,cond_false,hw]
   ·refine .inr ⟨(c,(n:Int),mi),?_,D,h3,⟨h4,h5,h6,fun x hx y hy hxy=>?_,fun E hE hcl x hx=>h9 E hE hcl x hx⟩,h7,h8⟩
    ·have hlt':¬ (n:Int) < (l.length:Int):=by omega
     unfold s144
     simp only [ho,hlt',decide_false,cond_false]
    ·by_cases hxf:x=frm
     ·subst hxf
      exact h11 y hy (by have:=hb y hy; omega) hxy
     ·exact h10 x hx hxf y hy hxy) l.length (1,0,m.erase frm) (by simp) ⟨0,[frm],rfl,by omega,rfl,by simp,by simp,by simpa using hf,hnd.erase _,fun x=>by
    rw [hnd.mem_erase_iff]
    simp only [List.mem_singleton]
    exact And.comm,fun E hE _ x hx=>by simp only [List.mem_singleton] at hx; exact hx ▸ hE,fun x hx hxf=>absurd (List.mem_singleton.1 hx) hxf,fun y hy hyn=>by have:=hb y hy; omega⟩
  obtain ⟨d,hd,D,q1,q2,q3,q4⟩:=key
  refine ⟨D,d.2.2,?_,q2,q3,q4⟩
  show F144 (f144 k) o below frm m=_
  unfold F144
  rw [hd]
  simp only [obind_at,q1]
end Go.Z
/-
 LineProofs: the reference's part is the part that hangs together,too.
-/
namespace Go.Z
open Go Go.Abs
def Free (n:Nat) (s:List Int) (x:Int):Prop:=0≤x∧x < (n:Int)∧x ∉ s
theorem free_len {n:Nat} {s p:List Int} (h:p.Nodup) (hp:∀ x∈p,Free n s x):p.length≤n:=by
 have:=nodup_sub_len (m:=(List.range n).map fun (i:Nat)=>(i:Int)) h fun x hx=>by
  have:=hp x hx
  unfold Free at this
  exact List.mem_map.2 ⟨x.toNat,List.mem_range.2 (by omega),by omega⟩
 simpa using this
section
variable {l:List GUnit} {o:Option (List GUnit)} {below:Int} (hu:UnitsOk l) (ho:o.getD []=l) (hl:l.length≤100)
include hu ho hl
theorem inner121 {s p:List Int} {i:Int} {at_:Nat} (hsl:s.length≤200) (hp:p.Nodup) (hpL:∀ x∈p,Free l.length s x) (hat:at_ < p.length)
  (hmin:∀ E:Int→Prop,E i→(∀ x,E x→∀ y,Free l.length s y→near l below x y=true→E y)→∀ x∈p,E x) (s0:Option (List Int) × Int × Int):
  ∃ ext,itO (s121_2 o below s0 (some (s++p),some p,(at_:Int))) (some (s++p),some p,0)=some (some (s++(p++ext)),some (p++ext),(l.length:Int))∧(p++ext).Nodup∧(∀ x∈p++ext,Free l.length s x) ∧
   (∀ y,Free l.length s y→near l below p[at_] y=true→y∈p++ext)∧(∀ E:Int→Prop,E i→(∀ x,E x→∀ y,Free l.length s y→near l below x y=true→E y)→∀ x∈p++ext,E x):=by
 have hx:=hpL p[at_] (List.getElem_mem hat)
 let Inv:Option (List Int) × Option (List Int) × Int→Prop:=fun st=>∃ (k:Nat) (ext:List Int),st=(some (s++(p++ext)),some (p++ext),(k:Int))∧k≤l.length∧(p++ext).Nodup∧(∀ x∈p++ext,Free l.length s x) ∧
  (∀ y,Free l.length s y→y < (k:Int)→near l below p[at_] y=true→y∈p++ext)∧(∀ E:Int→Prop,E i→(∀ x,E x→∀ y,Free l.length s y→near l below x y=true→E y)→∀ x∈p++ext,E x)
 have key:=itO_total (f:=s121_2 o below s0 (some (s++p),some p,(at_:Int))) Inv (fun d=>∃ ext,d=(some (s++(p++ext)),some (p++ext),(l.length:Int))∧(p++ext).Nodup∧(∀ x∈p++ext,Free l.length s x) ∧
   (∀ y,Free l.length s y→near l below p[at_] y=true→y∈p++ext)∧(∀ E:Int→Prop,E i→(∀ x,E x→∀ y,Free l.length s y→near l below x y=true→E y)→∀ x∈p++ext,E x)) (fun st=>l.length - st.2.2.toNat) (by
  rintro st ⟨k,ext,rfl,hk,h1,h2,h3,h4⟩
  have hlen:=free_len h1 h2
  have hlen2:(s++(p++ext)).length≤1000:=by rw [List.length_append]; omega
  by_cases hlt:k < l.length
  ·refine .inl ?_
   have hlt':(k:Int) < (l.length:Int):=by omega
   have hw:wrapF .i64 ((k:Int) + 1)=((k + 1:Nat):Int):=wrap_nat (by omega)
   have hmem:f124 (some (s++(p++ext))) (k:Int)=some (memI (s++(p++ext)) (k:Int)):=f124_eq rfl hlen2
   have stay:(¬ Free l.length s (k:Int)∨(k:Int)∈p++ext∨near l below p[at_] (k:Int)=false)→s121_2 o below s0 (some (s++p),some p,(at_:Int)) (some (s++(p++ext)),some (p++ext),(k:Int))=some (.inl (some (s++(p++ext)),some (p++ext),((k + 1:Nat):Int))) →
     ∃ s',s121_2 o below s0 (some (s++p),some p,(at_:Int)) (some (s++(p++ext)),some (p++ext),(k:Int))=some (.inl s')∧Inv s'∧l.length - s'.2.2.toNat < l.length - (k:Int).toNat:=by
    intro hno hs
    refine ⟨_,hs,⟨k + 1,ext,rfl,by omega,h1,h2,fun y hy hyk hya=>?_,h4⟩,by simp only; omega⟩
    by_cases hyk2:y=(k:Int)
    ·subst hyk2
     rcases hno with h | h | h
     ·exact absurd hy h
     ·exact h
     ·rw [h] at hya; cases hya
    ·exact h3 y hy (by omega) hya
   by_cases hin:(k:Int)∈s++(p++ext)
   ·refine stay ?_ ?_
    ·rcases List.mem_append.1 hin with h | h
     ·exact .inl fun hf=>hf.2.2 h
     ·exact .inr (.inl h)
    ·unfold s121_2
     simp only [ho,hlt',decide_true,cond_true,hmem,memI_iff.2 hin,obind_at,hw]
   ·have hmm:=memI_not.2 hin
    have hfree:Free l.length s (k:Int):=⟨by omega,hlt',fun h=>hin (List.mem_append_left _ h)⟩
    obtain ⟨u,w,g1,g2,g3⟩:=d_at hu hx.1 hx.2.1 (show (0:Int)≤(k:Int) by omega) hlt'
    have hidx:idxO (p++ext) (at_:Int)=some p[at_]:=by rw [idxO_nat,List.getElem?_append_left hat,List.getElem?_eq_getElem hat]
    by_cases hnear:dAt l p[at_] (k:Int) < below
    ·have hna:near l below p[at_] (k:Int)=true:=by unfold near; simp [hnear]
     have hs:s121_2 o below s0 (some (s++p),some p,(at_:Int)) (some (s++(p++ext)),some (p++ext),(k:Int))=some (.inl (some (s++(p++(ext++[(k:Int)]))),some (p++(ext++[(k:Int)])),((k + 1:Nat):Int))):=by
      unfold s121_2
      simp only [ho,hlt',decide_true,cond_true,hmem,hmm,obind_at,cond_false,Option.getD_some,hidx,g1,g2,f68_f115,g3,hnear,hw,ap_one (p++ext) (k:Int) (by omega),ap_one (s++(p++ext)) (k:Int) (by omega),List.append_assoc]
     have hkp:(k:Int) ∉ p++ext:=fun h=>hin (List.mem_append_right _ h)
     refine ⟨_,hs,⟨k + 1,ext++[(k:Int)],rfl,by omega,?_,?_,?_,?_⟩,by simp only; omega⟩
     ·rw [← List.append_assoc]
      exact List.nodup_append.2 ⟨h1,by simp,fun a ha b hb hab=>hkp (by rw [List.mem_singleton.1 hb] at hab; exact hab ▸ ha)⟩
     ·intro x hx'
      rw [← List.append_assoc] at hx'
      rcases List.mem_append.1 hx' with h | h
      ·exact h2 x h
      ·exact List.mem_singleton.1 h ▸ hfree
     ·intro y hy hyk hya
      rw [← List.append_assoc]
      by_cases hyk2:y=(k:Int)
      ·exact List.mem_append_right _ (List.mem_singleton.2 hyk2)
      ·exact List.mem_append_left _ (h3 y hy (by omega) hya)
     ·intro E hE hcl x hx'
      rw [← List.append_assoc] at hx'
      rcases List.mem_append.1 hx' with h | h
      ·exact h4 E hE hcl x h
      ·rw [List.mem_singleton.1 h]
       exact hcl p[at_] (h4 E hE hcl _ (List.mem_append_left _ (List.getElem_mem hat))) _ hfree hna
    ·refine stay (.inr (.inr (by unfold near; simp [hnear]))) ?_
     unfold s121_2
     simp only [ho,hlt',decide_true,cond_true,hmem,hmm,obind_at,cond_false,Option.getD_some,hidx,g1,g2,f68_f115,g3,hnear,decide_false,hw]
  ·have hk2:k=l.length:=by omega
   subst hk2
   refine .inr ⟨(some (s++(p++ext)),some (p++ext),(l.length:Int)),?_,ext,rfl,h1,h2,fun y hy hya=>h3 y hy hy.2.1 hya,h4⟩
   unfold s121_2
   simp [ho]) l.length (some (s++p),some p,0) (by simp) ⟨0,[],by simp,by omega,by simpa using hp,by simpa using hpL,fun y hy hyk=>by have:=hy.1; omega,by simpa using hmin⟩
 obtain ⟨d,hd,ext,rfl,q1,q2,q3,q4⟩:=key
 exact ⟨ext,hd,q1,q2,q3,q4⟩
theorem outer121 {s:List Int} {i:Int} (hsl:s.length≤200) (hi:Free l.length s i) (s0:Option (List Int) × Int × Int):
  ∃ p,itO (s121_1 o below s0) (some (s++[i]),some [i],0)=some (some (s++p),some p,(p.length:Int))∧IsPart (near l below) (Free l.length s) i p:=by
 let Inv:Option (List Int) × Option (List Int) × Int→Prop:=fun st=>∃ (at_:Nat) (p:List Int),st=(some (s++p),some p,(at_:Int))∧at_≤p.length∧p.Nodup∧i∈p∧(∀ x∈p,Free l.length s x) ∧
  (∀ (t:Nat) (ht:t < p.length),t < at_→∀ y,Free l.length s y→near l below p[t] y=true→y∈p)∧(∀ E:Int→Prop,E i→(∀ x,E x→∀ y,Free l.length s y→near l below x y=true→E y)→∀ x∈p,E x)
 have key:=itO_total (f:=s121_1 o below s0) Inv (fun d=>∃ p,d=(some (s++p),some p,(p.length:Int))∧IsPart (near l below) (Free l.length s) i p) (fun st=>l.length - st.2.2.toNat) (by
  rintro st ⟨at_,p,rfl,hat,h1,h2,h3,h4,h5⟩
  have hlen:=free_len h1 h3
  by_cases hlt:at_ < p.length
  ·refine .inl ?_
   have hlt':(at_:Int) < (p.length:Int):=by omega
   have hw:wrapF .i64 ((at_:Int) + 1)=((at_ + 1:Nat):Int):=wrap_nat (by omega)
   obtain ⟨ext,e1,e2,e3,e4,e5⟩:=inner121 (below:=below) hu ho hl hsl h1 h3 hlt h5 s0
   have hs:s121_1 o below s0 (some (s++p),some p,(at_:Int))=some (.inl (some (s++(p++ext)),some (p++ext),((at_ + 1:Nat):Int))):=by
    unfold s121_1
    simp only [Option.getD_some,hlt',decide_true,cond_true,e1,obind_at,hw]
   refine ⟨_,hs,⟨at_ + 1,p++ext,rfl,by rw [List.length_append]; omega,e2,List.mem_append_left _ h2,e3,?_,e5⟩,by simp only; omega⟩
   intro t ht hta y hy hya
   by_cases ht2:t=at_
   ·subst ht2
    rw [List.getElem_append_left hlt] at hya
    exact e4 y hy hya
   ·have htp:t < p.length:=by omega
    rw [List.getElem_append_left htp] at hya
    exact List.mem_append_left _ (h4 t htp (by omega) y hy hya)
  ·have hat2:at_=p.length:=by omega
   subst hat2
   refine .inr ⟨(some (s++p),some p,(p.length:Int)),?_,p,rfl,h1,h2,h3,?_,h5⟩
   ·unfold s121_1
    simp
   ·intro x hx y hy hxy
    obtain ⟨t,ht,rfl⟩:=List.getElem_of_mem hx
    exact h4 t ht ht y hy hxy) l.length (some (s++[i]),some [i],0) (by simp) ⟨0,[i],rfl,by simp,by simp,by simp,fun x hx=>List.mem_singleton.1 hx ▸ hi,fun t ht h=>by omega,fun E hE _ x hx=>List.mem_singleton.1 hx ▸ hE⟩
 obtain ⟨d,hd,p,rfl,hp⟩:=key
 exact ⟨p,hd,hp⟩
end
end Go.Z
