/- Chapter 10, plain. -/
import Derived.Test.YtfopaakmgogpiaaGreatDoorCA
import Derived.Test.YtfopaakmgogpiaaGreatDoorG0
import Derived.Test.YtfopaakmgogpiaaGreatDoorW3
import Derived.Test.YtfopaakmgogpiaaGreatDoorW6
import Derived.Test.YtfopaakmgogpiaaGreatDoorWS
import Derived.Test.YtfopaakmgogpiaaGreatDoorW15
set_option linter.unusedVariables false
set_option linter.unusedSimpArgs false
set_option maxRecDepth 100000
namespace Go.Z
open Go Go.Abs Go.W
def ixI:Option Nat→Int
 | some k=>(k:Int)
 | none=>-1
theorem jcc {α:Type} (l:List α) (p:α→Bool) (f:Int→Option (Int ⊕ (Int ⊕ Int))) (hend:f (l.length:Int)=some (.inr (.inr (l.length:Int))))
  (hstep:∀ (i:Nat) x,l[i]?=some x→i < l.length→f (i:Int)=some (if p x then .inr (.inl (i:Int)) else .inl ((i + 1:Nat):Int))):
  ∃ d,itO f 0=some d∧(match d with | .inl k=>k | .inr _=>-1)=ixI (l.findIdx? p):=by
 have:=qrk l.length (fun i=>(i:Int)) f (fun d=>match d with | .inl k=>k | .inr _=>(-1:Int)) (fun i=>ixI (((l.drop i).findIdx? p).map (· + i))) ⟨_,hend,by rw [List.drop_eq_nil_of_le (Nat.le_refl _)]; rfl⟩ (fun i hi=>by
  obtain ⟨x,hx⟩:∃ x,l[i]?=some x:=⟨_,List.getElem?_eq_getElem hi⟩
  have h1:=hstep i x hx hi
  simp only [qbf hx,List.findIdx?_cons]
  cases hp:p x with
  | true=>
   rw [hp,if_pos rfl] at h1
   exact .inr ⟨_,h1,by simp [ixI]⟩
  | false=>
   rw [hp] at h1
   refine .inl ⟨by simpa using h1,?_⟩
   simp only [Bool.false_eq_true,if_false,Option.map_map]
   congr 1
   congr 1
   funext n
   simp only [Function.comp]; omega)
 obtain ⟨d,h1,h2⟩:=this
 refine ⟨d,h1,?_⟩
 rw [h2]
 simp
abbrev SM:Nat:=1073741824
theorem qa0 {α:Type} {l:List α} {p:α→Bool} {f:Int→Option (Int ⊕ (Int ⊕ Int))} (hl:l.length≤SM)
  (hf:∀ i:Int,f i=cond (decide (i < (l.length:Int))) (qa (qw l i) fun x=>cond (p x) (some (.inr (.inl i))) (some (.inl (qe .i64 (i + 1))))) (some (.inr (.inr i)))):
  (qa (itO f 0) fun d=>match d with | .inl k=>some k | .inr _=>some (-1))=some (ixI (l.findIdx? p)):=by
 obtain ⟨d,h1,h2⟩:=jcc l p f (by rw [hf,zx]; rfl) (fun i x hx hi=>by
  rw [hf,yn hi]
  simp only [cond_true,qa,jf hx]
  cases p x with
  | true=>rfl
  | false=>simp only [cond_false]; rw [yl (by unfold SM at hl; omega)]; rfl)
 rw [h1]
 simp only [qa]
 rw [← h2]
 cases d <;> rfl
variable {r:GReg} {n:List UInt8}
theorem qqf (hl:(r.lots.getD []).length≤SM):f28 r n=some (ixI (zz r.er n)):=by
 unfold f28 zz
 exact qa0 (p:=fun x=>decide (x.name=n)) hl fun i=>rfl
theorem qm4 (hl:(r.lots.getD []).length≤SM):f72 r n=some (ixI (zz r.er n)):=by
 have:qu1 ((r.lots.getD []).length:Int) r n=some (ixI (zz r.er n)):=by
  unfold qu1 zz
  refine qa0 (p:=fun x=>decide (x.name=n)) hl fun i=>?_
  unfold qli f131
  congr 1
  cases qw (r.lots.getD []) i <;> rfl
 unfold f72; rw [this]; rfl
theorem qec:r.er.products=(r.products.getD []).map GProd.er:=rfl
theorem qfn:r.er.units=(r.units.getD []).map GUn.er:=rfl
theorem qks:z6 r.er n=(r.products.getD []).findIdx? fun x=>decide (x.name=n):=by
 unfold z6; rw [qec,List.findIdx?_map]; rfl
theorem qqi:zq r.er n=(r.units.getD []).findIdx? fun x=>decide (x.name=n):=by
 unfold zq; rw [qfn,List.findIdx?_map]; rfl
theorem qiv (hl:(r.products.getD []).length≤SM):f144 r n=some (ixI (z6 r.er n)):=by
 rw [qks]; unfold f144
 exact qa0 (p:=fun x=>decide (x.name=n)) hl fun i=>rfl
theorem qdy (hl:(r.products.getD []).length≤SM):f165 r n=some (ixI (z6 r.er n)):=by
 have:qu2 ((r.products.getD []).length:Int) r n=some (ixI (z6 r.er n)):=by
  rw [qks]; unfold qu2
  refine qa0 (p:=fun x=>decide (x.name=n)) hl fun i=>?_
  unfold qlr f233
  congr 1
  cases qw (r.products.getD []) i <;> rfl
 unfold f165; rw [this]; rfl
theorem qwo (hl:(r.units.getD []).length≤SM):f27 r n=some (ixI (zq r.er n)):=by
 rw [qqi]; unfold f27
 exact qa0 (p:=fun x=>decide (x.name=n)) hl fun i=>rfl
theorem qhn (hl:(r.units.getD []).length≤SM):f93 r n=some (ixI (zq r.er n)):=by
 have:que ((r.units.getD []).length:Int) r n=some (ixI (zq r.er n)):=by
  rw [qqi]; unfold que
  refine qa0 (p:=fun x=>decide (x.name=n)) hl fun i=>?_
  unfold qly f148
  congr 1
  cases qw (r.units.getD []) i <;> rfl
 unfold f93; rw [this]; rfl
end Go.Z
namespace Go.Z
open Go Go.Abs Go.W
theorem qyn {i:Nat} (h:i < 9223372036854775807):qe .i64 (((i + 1:Nat):Int) - 1)=(i:Int):=by
 have:=yl (i:=i) h
 rw [show (((i + 1:Nat):Int) - 1)=(i:Int) by omega]
 cases i with
 | zero=>rfl
 | succ j=>
  have:=yl (i:=j) (by omega)
  rw [show ((j + 1:Nat):Int)=(j:Int) + 1 by omega,this]; omega
variable {r:GReg} {n:List UInt8}
theorem qte {sp:SProd} (h:qbp r.er n=some sp):∃ k p,z6 r.er n=some k∧(r.products.getD [])[k]?=some p∧p.er=sp∧p.name=n:=by
 unfold qbp at h
 cases hk:z6 r.er n with
 | none=>rw [hk] at h; cases h
 | some k=>
  rw [hk] at h
  simp only [Option.bind_some,qec,List.getElem?_map] at h
  cases hp:(r.products.getD [])[k]? with
  | none=>rw [hp] at h; cases h
  | some p=>
   rw [hp] at h
   rw [qks] at hk
   obtain ⟨x,h1,h2,_⟩:=findIdx?_get hk
   rw [hp] at h1; cases h1
   exact ⟨k,p,rfl,hp,by simpa using h,of_decide_eq_true h2⟩
theorem jpv {u:GUn} {d:SDoc} (hP:(r.products.getD []).length≤SM) (hB:∀ p∈r.products.getD [],(p.docs.getD []).length≤SM) (hd:qbg r.er u.er=some d):∃ D,f134 r u=some D∧f78 r u=some D∧D.er=d:=by
 unfold qbg at hd
 cases hp:qbp r.er u.er.product with
 | none=>rw [hp] at hd; cases hd
 | some sp=>
  rw [hp] at hd
  obtain ⟨k,p,h1,h2,rfl,_⟩:=qte hp
  simp only [Option.bind_some,q67] at hd
  have hB:=hB p (List.mem_of_getElem? h2)
  split at hd
  ·rename_i hv
   obtain ⟨i,hi⟩:∃ i:Nat,u.version=((i + 1:Nat):Int):=⟨(u.version - 1).toNat,by have:1≤u.version:=hv; omega⟩
   have he:(u.er.version - 1).toNat=i:=by show (u.version - 1).toNat=i; omega
   rw [he] at hd
   have hd2:((p.docs.getD []).map GDoc.er)[i]?=some d:=hd
   rw [List.getElem?_map] at hd2
   cases hD:(p.docs.getD [])[i]? with
   | none=>rw [hD] at hd2; cases hd2
   | some D=>
    rw [hD] at hd2
    have hlt:=(List.getElem?_eq_some_iff.1 hD).1
    have hw:qe .i64 (u.version - 1)=(i:Int):=by rw [hi]; exact qyn (by unfold SM at hB; omega)
    refine ⟨D,?_,?_,by simpa using hd2⟩
    ·unfold f134
     rw [qdy hP,show z6 r.er u.product=some k from h1]
     simp only [qa,ixI,jf h2,hw,jf hD]
    ·unfold f78
     rw [qiv hP,show z6 r.er u.product=some k from h1]
     simp only [qa,ixI,jf h2,hw,jf hD]
  ·cases hd
theorem qkg {u:GUn} {v:Int} (hP:(r.products.getD []).length≤SM) (hd:qef r.er u.er=some v):f140 r u=some v∧f80 r u=some v:=by
 unfold qef at hd
 cases hp:qbp r.er u.er.product with
 | none=>rw [hp] at hd; cases hd
 | some sp=>
  rw [hp] at hd
  obtain ⟨k,p,h1,h2,rfl,_⟩:=qte hp
  have hv:v=((p.docs.getD []).length:Int):=by
   simp only [Option.map_some,Option.some.injEq] at hd
   rw [← hd]
   show ((((p.docs.getD []).map GDoc.er).length:Nat):Int)=_
   rw [List.length_map]
  subst hv
  refine ⟨?_,?_⟩
  ·unfold f140 f182
   rw [qdy hP,show z6 r.er u.product=some k from h1]
   simp only [qa,ixI,jf h2]
  ·unfold f80
   rw [qiv hP,show z6 r.er u.product=some k from h1]
   simp only [qa,ixI,jf h2]
theorem qm8 {α γ ε:Type} (g:γ→α→γ):∀ (l:List α) (i:Nat) (c:γ),qyb (fun _ c x=>(.inl (g c x):γ ⊕ ε)) i c l=.inl (l.foldl g c)
 | [],i,c=>rfl
 | x::l,i,c=>by simp only [qyb,List.foldl_cons]; exact qm8 g l (i + 1) (g c x)
theorem qlq {α γ σ δ:Type} (l:List α) (f:σ→Option (σ ⊕ δ)) (mk:Nat→γ→σ) (g:γ→α→γ) (En:γ→δ) (c:γ) (hend:∀ c,f (mk l.length c)=some (.inr (En c)))
  (hstep:∀ i c x,l[i]?=some x→i < l.length→f (mk i c)=some (.inl (mk (i + 1) (g c x)))):itO f (mk 0 c)=some (En (l.foldl g c)):=by
 have:=q0o (ε:=Empty) l f mk (fun _ c x=>.inl (g c x)) En (fun e=>nomatch e) (fun _ _=>True) c (fun c _=>hend c) (fun i c x hx hi _=>⟨trivial,hstep i c x hx hi⟩) trivial
 rw [this,qm8]
theorem jru {u:GUn} {t:qu} (hl:(u.results.getD []).length≤SM):f79 u t=some (qen u.er t):=by
 unfold f79
 have:=qlq (u.results.getD []) (qnq u t) (fun i (c:Bool)=>(c,(i:Int))) (fun is x=>if decide (x.k=t.k) && decide (x.a=u.version) then decide (t.a≤x.b) && decide (x.b≤t.b) else is) (fun c=>(c,((u.results.getD []).length:Int))) false (fun c=>by unfold qnq; simp only [zx]; rfl)
  (fun i c x hx hi=>by
   unfold qnq
   simp only [yn hi,cond_true,qa,jf hx]
   rw [yl (by unfold SM at hl; omega)]
   by_cases h1:x.k=t.k <;> by_cases h2:x.a=u.version <;> by_cases h3:t.a≤x.b <;> simp [h1,h2,h3])
 rw [show ((false,(0:Int)):Bool × Int)=(false,((0:Nat):Int)) from rfl,this]
 rfl
theorem jjb {u:GUn} {t:qu} (hl:(u.results.getD []).length≤SM) (hv:u.version ≠ -1):f136 u t=some (qen u.er t):=by
 unfold f136
 have:=qlq (u.results.getD []) (qjk u t) (fun i (c:qu)=>((i:Int),c.k,c.a,c.b)) (fun c x=>if decide (x.k=t.k) && decide (x.a=u.version) then x else c) (fun c=>(((u.results.getD []).length:Int),c.k,c.a,c.b)) ⟨[],-1,0⟩ (fun c=>by unfold qjk; simp only [zx]; rfl)
  (fun i c x hx hi=>by
   unfold qjk
   simp only [yn hi,cond_true,qa,jf hx]
   rw [yl (by unfold SM at hl; omega)]
   by_cases h1:x.k=t.k <;> by_cases h2:x.a=u.version <;> simp [h1,h2])
 rw [show (((0:Int),([]:List UInt8),(-1:Int),(0:Int)):Int × List UInt8 × Int × Int)=(((0:Nat):Int),[],-1,0) from rfl]
 simp only [] at this
 rw [this]
 simp only [qa]
 have key:∀ (l:List qu) (c:qu) (b:Bool),(c=⟨[],-1,0⟩∧b=false∨c.a=u.version∧b=(decide (t.a≤c.b) && decide (c.b≤t.b))) →
   (let c':=l.foldl (fun c x=>if decide (x.k=t.k) && decide (x.a=u.version) then x else c) c
    let b':=l.foldl (fun is x=>if decide (x.k=t.k) && decide (x.a=u.version) then decide (t.a≤x.b) && decide (x.b≤t.b) else is) b
    c'=⟨[],-1,0⟩∧b'=false∨c'.a=u.version∧b'=(decide (t.a≤c'.b) && decide (c'.b≤t.b))):=by
  intro l
  induction l with
  | nil=>intro c b h; exact h
  | cons x l ih=>
   intro c b h
   simp only [List.foldl_cons]
   jh ih
   by_cases h1:x.k=t.k <;> by_cases h2:x.a=u.version
   ·simp only [h1,h2,decide_true,Bool.and_self,if_true]
    right; trivial
   all_goals simpa only [h1,h2,decide_true,decide_false,Bool.and_false,Bool.false_and,Bool.and_self,Bool.false_eq_true,if_false] using h
 have k:=key (u.results.getD []) ⟨[],-1,0⟩ false (.inl ⟨rfl,rfl⟩)
 simp only at k
 show _=some ((u.results.getD []).foldl (fun is x=>if decide (x.k=t.k) && decide (x.a=u.version) then decide (t.a≤x.b) && decide (x.b≤t.b) else is) false)
 rcases k with ⟨h1,h2⟩ | ⟨h1,h2⟩
 ·rw [h2,h1]; rfl
 ·rw [h2]
  generalize (u.results.getD []).foldl (fun c x=>if decide (x.k=t.k) && decide (x.a=u.version) then x else c) ⟨[],-1,0⟩=c at h1
  have:decide (c.a=-1)=false:=decide_eq_false (by rw [h1]; exact hv)
  simp only [this,Bool.and_false,Bool.false_and,cond_false]
  by_cases h3:t.a≤c.b <;> simp [h3]
end Go.Z
namespace Go.Z
open Go Go.Abs Go.W
theorem qm7 {α β:Type} (p:α→Bool) (g:α→β):∀ l:List α,(l.flatMap fun x=>if p x then [g x] else [])=(l.filter p).map g
 | []=>rfl
 | x::l=>by
  rw [List.flatMap_cons,qm7 p g l,List.filter_cons]
  cases p x <;> rfl
theorem qx5 {α β:Type} {l:List α} {p:α→Bool} {g:α→β} {f:Option (List β) × Int × Bool→Option ((Option (List β) × Int × Bool) ⊕ (Option (List β) × Bool × Int))} (hl:l.length≤SM)
  (hend:∀ o w,f (o,(l.length:Int),w)=some (.inr (o,w,(l.length:Int))))
  (hf:∀ (i:Nat) x o w,l[i]?=some x→f (o,(i:Int),w)=cond (p x) (cond w (qa (apO o [g x]) fun v=>some (.inl (v,((i + 1:Nat):Int),true))) (cond o.isNone (qa (apO o [g x]) fun v=>some (.inl (v,((i + 1:Nat):Int),true))) none)) (some (.inl (o,((i + 1:Nat):Int),w)))):
  itO f (none,0,false)=some (jz ((l.filter p).map g),qay ((l.filter p).map g),(l.length:Int)):=by
 have:=jdu l (fun i=>(i:Int)) f (fun x=>if p x then [g x] else []) [] (fun i a=>a.length≤i) (Nat.le_refl _) (fun a=>hend _ _) (fun i x a hx hi ha=>by
  cases hp:p x with
  | true=>
   refine ⟨by simp; omega,?_⟩
   rw [hf i x _ _ hx,hp]
   simp only [cond_true,if_true]
   rw [qd7]
   exact qdk (x:=g x) (k:=fun v=>some (Sum.inl (v,((i + 1:Nat):Int),true))) (by unfold SM at hl; omega)
  | false=>
   refine ⟨by simp; omega,?_⟩
   rw [hf i x _ _ hx,hp]
   simp)
 rw [qm7,List.nil_append] at this
 exact this
theorem qw6 {α:Type} {l:List α} {p:α→Bool} {q:α→Option Bool} {f:Option (List α) × Int × Bool→Option ((Option (List α) × Int × Bool) ⊕ (Option (List α) × Bool × Int))} (hl:l.length≤SM) (hq:∀ x∈l,q x=some (p x))
  (hf:∀ s,f s=cond (decide (s.2.1 < (l.length:Int))) (qa (qw l s.2.1) fun x=>qa (q x) fun b=>cond b (cond s.2.2 (qa (apO s.1 [x]) fun v=>some (.inl (v,qe .i64 (s.2.1 + 1),true))) (cond s.1.isNone (qa (apO s.1 [x]) fun v=>some (.inl (v,qe .i64 (s.2.1 + 1),true))) none)) (some (.inl (s.1,qe .i64 (s.2.1 + 1),s.2.2)))) (some (.inr (s.1,s.2.2,s.2.1)))):
  itO f (none,0,false)=some (jz (l.filter p),qay (l.filter p),(l.length:Int)):=by
 have:=qx5 (l:=l) (p:=p) (g:=fun x=>x) (f:=f) hl (fun o w=>by rw [hf]; simp only [zx,cond_false]) (fun i x o w hx=>by
  have hi:=(List.getElem?_eq_some_iff.1 hx).1
  rw [hf]
  simp only [yn hi,cond_true,qa,jf hx,hq x (List.mem_of_getElem? hx)]
  rw [yl (by unfold SM at hl; omega)])
 simpa using this
theorem qou {α β:Type} {l:List α} {g:α→β} {q:α→Option β} {f:Option (List β) × Int × Bool→Option ((Option (List β) × Int × Bool) ⊕ (Option (List β) × Bool × Int))} (hl:l.length≤SM) (hq:∀ x∈l,q x=some (g x))
  (hf:∀ s,f s=cond (decide (s.2.1 < (l.length:Int))) (qa (qw l s.2.1) fun x=>qa (q x) fun b=>cond s.2.2 (qa (apO s.1 [b]) fun v=>some (.inl (v,qe .i64 (s.2.1 + 1),true))) (cond s.1.isNone (qa (apO s.1 [b]) fun v=>some (.inl (v,qe .i64 (s.2.1 + 1),true))) none)) (some (.inr (s.1,s.2.2,s.2.1)))):
  itO f (none,0,false)=some (jz (l.map g),qay (l.map g),(l.length:Int)):=by
 have:=qx5 (l:=l) (p:=fun _=>true) (g:=g) (f:=f) hl (fun o w=>by rw [hf]; simp only [zx,cond_false]) (fun i x o w hx=>by
  have hi:=(List.getElem?_eq_some_iff.1 hx).1
  rw [hf]
  simp only [yn hi,cond_true,qa,jf hx,hq x (List.mem_of_getElem? hx)]
  rw [yl (by unfold SM at hl; omega)])
 rw [List.filter_eq_self.2 (fun _ _=>rfl)] at this
 exact this
variable {r:GReg} {u:GUn} {D:GDoc}
theorem q52 {α:Type} {l:List α} {p:α→Bool} (hl:l.length≤SM):(l.filter p).length≤SM:=Nat.le_trans (List.length_filter_le _ _) hl
theorem jni (hd:f134 r u=some D) (hr:(u.results.getD []).length≤SM) (ht:(D.tests.getD []).length≤SM) (hv:u.version ≠ -1):∃ w,f74 r u=some (jz (qei D.er u.er),w):=by
 unfold f74
 rw [hd]
 simp only [qa]
 have h1:f133 D.tests u=some (jz ((D.tests.getD []).filter fun t=>!qen u.er t),qay ((D.tests.getD []).filter fun t=>!qen u.er t)):=by
  unfold f133
  rw [qw6 (f:=qp5 D.tests u) (l:=D.tests.getD []) (p:=fun t=>!qen u.er t) (q:=fun t=>f135 t u) ht (fun x _=>by unfold f135; rw [jjb hr hv]; rfl) (fun s=>rfl)]
  rfl
 rw [h1]
 simp only []
 have h2:f137 (jz ((D.tests.getD []).filter fun t=>!qen u.er t))=some (jz (qei D.er u.er),qay (qei D.er u.er)):=by
  unfold f137
  rw [qou (f:=qqa (jz ((D.tests.getD []).filter fun t=>!qen u.er t))) (l:=((jz ((D.tests.getD []).filter fun t=>!qen u.er t)).getD [])) (g:=fun t:qu=>t.k) (q:=f138) (by rw [zt]; exact q52 ht) (fun x _=>rfl) (fun s=>rfl),zt]
  rfl
 rw [h2]
 exact ⟨_,rfl⟩
theorem jr3 (hd:f78 r u=some D) (hr:(u.results.getD []).length≤SM) (ht:(D.tests.getD []).length≤SM):∃ w,f30 r u=some (jz (qei D.er u.er),w):=by
 unfold f30
 rw [hd]
 simp only [qa]
 have:=qx5 (l:=D.tests.getD []) (p:=fun t=>!qen u.er t) (g:=fun t:qu=>t.k) (f:=qnv u D) ht (fun o w=>by unfold qnv; simp only [zx,cond_false]) (fun i x o w hx=>by
  have hi:=(List.getElem?_eq_some_iff.1 hx).1
  unfold qnv
  simp only [yn hi,cond_true,qa,jf hx,jru hr]
  rw [yl (by unfold SM at ht; omega)]
  cases qen u.er x <;> rfl)
 rw [this]
 exact ⟨_,rfl⟩
theorem qw5 {n:List UInt8} {x:qt} (h:qd3 r.er n=some x):∃ k:Nat,zz r.er n=some k∧(r.lots.getD [])[k]?=some x:=by
 unfold qd3 at h
 cases hk:zz r.er n with
 | none=>rw [hk] at h; cases h
 | some k=>rw [hk] at h; exact ⟨k,rfl,h⟩
theorem qgm {n:List UInt8} (h:(zz r.er n).isSome=true):∃ x,qd3 r.er n=some x:=by
 unfold qd3
 cases hk:zz r.er n with
 | none=>rw [hk] at h; cases h
 | some k=>
  obtain ⟨x,h1,_⟩:=findIdx?_get hk
  exact ⟨x,h1⟩
def qr4 (r:SReg) (kind:Str) (n:Int) (x:GSI):Int:=if (qd3 r x.k).any (fun l=>decide (l.kind=kind)) then qe .i64 (n + x.n) else n
theorem jjs {kind:List UInt8} (hL:(r.lots.getD []).length≤SM) (hu:(u.uses.getD []).length≤SM) (hw:∀ x∈u.uses.getD [],(zz r.er x.k).isSome=true):f145 r u kind=some (qmr (qe .i64) r.er u.er kind):=by
 unfold f145
 have:=qlq (u.uses.getD []) (qj7 r u kind) (fun i (c:Int)=>(c,(i:Int))) (qr4 r.er kind) (fun c=>(c,((u.uses.getD []).length:Int))) 0 (fun c=>by unfold qj7; simp only [zx]; rfl)
  (fun i c x hx hi=>by
   obtain ⟨y,hy⟩:=qgm (hw x (List.mem_of_getElem? hx))
   obtain ⟨k,h1,h2⟩:=qw5 hy
   unfold qj7 qr4
   simp only [yn hi,cond_true,qa,jf hx,qqf hL,h1,ixI,jf h2,hy,Option.any_some]
   rw [yl (by unfold SM at hu; omega)]
   by_cases h3:y.kind=kind <;> simp [h3])
 rw [show (((0:Int),(0:Int)):Int × Int)=((0:Int),((0:Nat):Int)) from rfl,this]
 rfl
theorem q47 {σ:Type} {step:σ→qt→Int→Option σ} {g:σ→GSI→σ} (I:Nat→σ→Prop) (hL:(r.lots.getD []).length≤SM) (hu:(u.uses.getD []).length≤SM)
  (hg:∀ i x c,(u.uses.getD [])[i]?=some x→I i c→I (i + 1) (g c x)∧∃ y,qd3 r.er x.k=some y∧step c y x.n=some (g c x)) (c:σ) (hI:I 0 c):itO (qgz r u step) (0,c)=some (((u.uses.getD []).length:Int),(u.uses.getD []).foldl g c):=by
 have:=q0o (ε:=Empty) (u.uses.getD []) (qgz r u step) (fun i (c:σ)=>((i:Int),c)) (fun _ c x=>.inl (g c x)) (fun c=>(((u.uses.getD []).length:Int),c)) (fun e=>nomatch e) I c (fun c _=>by unfold qgz; simp only [zx]; rfl)
  (fun i c x hx hi hI=>by
   obtain ⟨hI',y,h1,h2⟩:=hg i x c hx hI
   obtain ⟨k,h3,h4⟩:=qw5 h1
   refine ⟨hI',?_⟩
   unfold qgz
   simp only [yn hi,cond_true,qa,jf hx,qm4 hL,h3,ixI,jf h4,h2]
   rw [yl (by unfold SM at hu; omega)]) hI
 rw [show ((0:Int),c)=(((0:Nat):Int),c) from rfl,this,qm8]
end Go.Z
