/- Chapter 10, plain. -/
import Derived.Test.YtfopaakmgogpiaaGreatDoorE1
import Derived.Test.YtfopaakmgogpiaaGreatDoorV3
set_option linter.unusedVariables false
set_option linter.unusedSimpArgs false
set_option maxRecDepth 100000
namespace Go.Z
open Go Go.Abs Go.W
variable {r:GReg} {u:GUn} {D:GDoc}
theorem q2j {k:List UInt8} {v:Int}:∀ l:List (List UInt8 × Int),(qdp l k v).length≤l.length + 1
 | []=>Nat.le_refl _
 | p::l=>by
  unfold qdp
  split
  ·simp
  ·simp only [List.length_cons]; exact Nat.succ_le_succ (q2j l)
theorem q7d {α γ:Type} {l:List α} {i:Nat} {x:α} (hx:l[i]?=some x) (g:γ→α→γ) (c:γ):(l.take (i + 1)).foldl g c=g ((l.take i).foldl g c) x:=by
 rw [List.take_add_one,hx,List.foldl_append]; rfl
theorem jkf (hL:(r.lots.getD []).length≤SM) (hu:(u.uses.getD []).length≤SM) (hw:∀ x∈u.uses.getD [],(zz r.er x.k).isSome=true):∃ M,itO (qgz r u qnl) (0,[])=some (((u.uses.getD []).length:Int),M)∧∀ kind,qe2 M kind=qmr (qe .i64) r.er u.er kind:=by
 let g:List (List UInt8 × Int)→GSI→List (List UInt8 × Int):=fun c x=>match qd3 r.er x.k with
  | some y=>qdp c y.kind (qe .i64 (qe2 c y.kind + x.n))
  | none=>c
 let I:Nat→List (List UInt8 × Int)→Prop:=fun i M=>M.length≤i∧∀ kind,qe2 M kind=((u.uses.getD []).take i).foldl (qr4 r.er kind) 0
 have hg:∀ i x c,(u.uses.getD [])[i]?=some x→I i c→I (i + 1) (g c x)∧∃ y,qd3 r.er x.k=some y∧qnl c y x.n=some (g c x):=by
  intro i x c hx hI
  obtain ⟨y,hy⟩:=qgm (hw x (List.mem_of_getElem? hx))
  have hi:=(List.getElem?_eq_some_iff.1 hx).1
  have hgc:g c x=qdp c y.kind (qe .i64 (qe2 c y.kind + x.n)):=by simp only [g,hy]
  rw [hgc]
  refine ⟨⟨Nat.le_trans (q2j _) (Nat.succ_le_succ hI.1),fun kind=>?_⟩,y,hy,?_⟩
  ·rw [q7d hx,jb5,← hI.2 kind]
   unfold qr4
   rw [hy]
   simp only [Option.any_some]
   by_cases hk:kind=y.kind
   ·subst hk; simp
   ·have hk2:¬ y.kind=kind:=fun h=>hk h.symm
    simp [hk,hk2]
  ·unfold qnl q8d
   rw [if_pos (by have:=hI.1; unfold SM at hu; omega)]
 have:=q47 (step:=qnl) (g:=g) I hL hu hg [] ⟨Nat.le_refl _,fun kind=>rfl⟩
 have hI:∀ (k i:Nat) (c:List (List UInt8 × Int)),i + k=(u.uses.getD []).length→I i c→I (u.uses.getD []).length (((u.uses.getD []).drop i).foldl g c):=by
  intro k
  induction k with
  | zero=>
   intro i c hi hc
   have:i=(u.uses.getD []).length:=by omega
   subst this
   rw [List.drop_eq_nil_of_le (Nat.le_refl _)]; exact hc
  | succ k ih=>
   intro i c hi hc
   obtain ⟨x,hx⟩:∃ x,(u.uses.getD [])[i]?=some x:=⟨_,List.getElem?_eq_getElem (by omega)⟩
   rw [qbf hx,List.foldl_cons]
   exact ih (i + 1) _ (by omega) (hg i x c hx hc).1
 have h2:=hI _ 0 [] (Nat.zero_add _) ⟨Nat.le_refl _,fun kind=>rfl⟩
 rw [List.drop_zero] at h2
 refine ⟨_,this,fun kind=>?_⟩
 rw [h2.2 kind,List.take_length]
 rfl
theorem qdf (o:Option Nat):decide (0≤ixI o)=o.isSome:=by
 cases o with
 | none=>rfl
 | some k=>exact decide_eq_true (by show (0:Int)≤(k:Int); omega)
theorem isSome_findIdx? {α:Type} {p:α→Bool} {l:List α}:(l.findIdx? p).isSome=l.any p:=by rw [any_findIdx]
theorem jdd {l:Option (List GSI)} {M:List (List UInt8 × Int)} (hl:(l.getD []).length≤SM):qvr l M=some ((l.getD []).any fun n=>decide (qe2 M n.k < n.n)):=by
 have:qu4 l M=some (ixI ((l.getD []).findIdx? fun n=>decide (qe2 M n.k < n.n))):=by
  unfold qu4
  exact qa0 (p:=fun n=>decide (qe2 M n.k < n.n)) hl fun i=>rfl
 unfold qvr
 rw [this]
 simp only [qa,qdf,isSome_findIdx?]
theorem jlm (hL:(r.lots.getD []).length≤SM) (hu:(u.uses.getD []).length≤SM) (hw:∀ x∈u.uses.getD [],(zz r.er x.k).isSome=true) (hd:f134 r u=some D) (hn:(D.needs.getD []).length≤SM):f141 r u=some (qck (qe .i64) r.er D.er u.er):=by
 obtain ⟨M,h1,h2⟩:=jkf hL hu hw
 unfold f141
 rw [h1,hd]
 simp only [qa,jdd hn,Option.some.injEq]
 unfold qck
 rw [show D.er.needs=D.needs.getD [] from rfl]
 induction D.needs.getD [] with
 | nil=>rfl
 | cons n l ih=>
  rw [List.any_cons,List.all_cons,Bool.not_or,ih,h2]
  congr 1
  by_cases h:qmr (qe .i64) r.er u.er n.k < n.n
  ·rw [decide_eq_true h,decide_eq_false (by omega)]; rfl
  ·rw [decide_eq_false h,decide_eq_true (by omega)]; rfl
theorem jog (hL:(r.lots.getD []).length≤SM) (hu:(u.uses.getD []).length≤SM) (hw:∀ x∈u.uses.getD [],(zz r.er x.k).isSome=true) (hd:f78 r u=some D) (hn:(D.needs.getD []).length≤SM):f81 r u=some (qck (qe .i64) r.er D.er u.er):=by
 unfold f81
 rw [hd]
 simp only [qa]
 obtain ⟨d,h1,h2⟩:=qtm (D.needs.getD []) (qn9 r u D) (fun n=>decide (n.n≤qmr (qe .i64) r.er u.er n.k)) (fun d=>match d with | .inl _=>false | .inr _=>true) ⟨.inr ((D.needs.getD []).length:Int),by unfold qn9; simp only [zx]; rfl,rfl⟩ (fun i x hx hi=>by
  unfold qn9
  simp only [yn hi,cond_true,qa,jf hx,jjs hL hu hw]
  rw [yl (by unfold SM at hn; omega)]
  by_cases h:qmr (qe .i64) r.er u.er x.k < x.n
  ·exact .inr ⟨decide_eq_false (by omega),.inl (),by rw [decide_eq_true h]; rfl,rfl⟩
  ·exact .inl ⟨decide_eq_true (by omega),by rw [decide_eq_false h]; rfl⟩)
 rw [h1]
 unfold qck
 rw [show D.er.needs=D.needs.getD [] from rfl,← h2]
 cases d <;> rfl
def qro (r:SReg) (us:List GSI):List qt:=us.map fun x=>(qd3 r x.k).getD ⟨[],[],0,0,false⟩
theorem jgp (hL:(r.lots.getD []).length≤SM) (hu:(u.uses.getD []).length≤SM) (hw:∀ x∈u.uses.getD [],(zz r.er x.k).isSome=true):itO (qgz r u p75) (0,none)=some (((u.uses.getD []).length:Int),jz (qro r.er (u.uses.getD []))):=by
 let gx:GSI→qt:=fun x=>(qd3 r.er x.k).getD ⟨[],[],0,0,false⟩
 let g:Option (List qt)→GSI→Option (List qt):=fun c x=>jz (c.getD []++[gx x])
 have:=q47 (step:=p75) (g:=g) (fun i c=>∃ a:List qt,c=jz a∧a.length=i) hL hu (fun i x c hx hI=>by
  obtain ⟨a,rfl,ha⟩:=hI
  have hi:=(List.getElem?_eq_some_iff.1 hx).1
  obtain ⟨y,hy⟩:=qgm (hw x (List.mem_of_getElem? hx))
  have hgx:gx x=y:=by simp only [gx,hy,Option.getD_some]
  refine ⟨⟨a++[y],by simp only [g,hgx,zt],by simp [ha]⟩,y,hy,?_⟩
  unfold p75
  rw [qw0 (by unfold SM at hu; omega)]
  simp only [g,hgx,zt]) none ⟨[],rfl,rfl⟩
 rw [this]
 congr 2
 have key:∀ (l:List GSI) (a:List qt),l.foldl g (jz a)=jz (a++l.map gx):=by
  intro l
  induction l with
  | nil=>intro a; simp
  | cons x l ih=>
   intro a
   rw [List.foldl_cons,show g (jz a) x=jz (a++[gx x]) by simp only [g,zt],ih,List.map_cons,List.append_assoc]; rfl
 have:=key (u.uses.getD []) []
 rw [List.nil_append] at this
 exact this
theorem q38 (hw:∀ x∈u.uses.getD [],(zz r.er x.k).isSome=true):qjq r.er u.er=!((qro r.er (u.uses.getD [])).filter (·.held)).isEmpty:=by
 unfold qjq qro
 rw [show u.er.uses=u.uses.getD [] from rfl]
 revert hw
 generalize u.uses.getD []=us
 intro hw
 induction us with
 | nil=>rfl
 | cons x l ih=>
  obtain ⟨y,hy⟩:=qgm (hw x (List.mem_cons_self ..))
  rw [List.any_cons,ih (fun x hx=>hw x (List.mem_cons_of_mem _ hx)),List.map_cons,List.filter_cons,hy]
  simp only [Option.any_some,Option.getD_some]
  cases y.held <;> rfl
theorem qaz {b:Bool} {e:Int}:f53 b e=some (if b then e else 0):=by unfold f53; cases b <;> rfl
theorem jk7 {l:List qt} (hl:l.length≤SM):f142 (jz l)=some (jz (l.filter (·.held)),qay (l.filter (·.held))):=by
 unfold f142
 rw [qw6 (f:=qo7 (jz l)) (l:=(jz l).getD []) (p:=fun x:qt=>x.held) (q:=fun x=>f143 x) (by rw [zt]; exact hl) (fun x _=>rfl) (fun s=>rfl),zt]
 rfl
def qag:List Int→Int
 | []=>0
 | e::l=>if e=0 then qag l else e
theorem ky {l:List Int} (hl:l.length≤SM):f51 (some l)=some (qag l):=by
 unfold f51
 have:=qrk l.length (fun i=>(i:Int)) (qob (some l)) (fun d=>match d with | .inl k=>k | .inr _=>(0:Int)) (fun i=>qag (l.drop i)) ⟨.inr (l.length:Int),by unfold qob; simp only [Option.getD_some,zx]; rfl,by rw [List.drop_eq_nil_of_le (Nat.le_refl _)]; rfl⟩ (fun i hi=>by
  obtain ⟨x,hx⟩:∃ x,l[i]?=some x:=⟨_,List.getElem?_eq_getElem hi⟩
  unfold qob
  simp only [Option.getD_some,yn hi,cond_true,qa,jf hx,qbf hx,qag]
  by_cases h0:x=0
  ·simp only [h0,decide_true,cond_true,if_true]
   rw [yl (by unfold SM at hl; omega)]
   left; constructor <;> first | rfl | trivial
  ·simp only [h0,decide_false,cond_false,if_false]
   exact .inr ⟨_,rfl,rfl⟩)
 obtain ⟨d,h1,h2⟩:=this
 rw [show ((0:Int))=((0:Nat):Int) from rfl,h1]
 rw [List.drop_zero] at h2
 simp only [qa]
 rw [← h2]
 cases d <;> rfl
theorem qwx {α:Type} {l:List α}:decide (0 < (((jz l).getD []).length:Int))=!l.isEmpty:=by
 rw [zt]
 cases l with
 | nil=>rfl
 | cons x l=>simp
theorem qyt {w:Int→Int} {r:SReg} {u:SUnit} {d:SDoc} {v:Int} (hd:qbg r u=some d) (hv:qef r u=some v):qe6 w r u=if u.shipped then 21 else if u.version ≠ v then 32 else if !qck w r d u then 20 else if !(qei d u).isEmpty then 31 else if qjq r u then 34 else 0:=by
 unfold qe6
 rw [hd,hv]
 cases u.shipped
 ·by_cases h:u.version=v
  ·simp [h]
  ·simp [h,Ne.symm h]
 ·rfl
theorem jq9 {v:Int} (hP:(r.products.getD []).length≤SM) (hv0:qef r.er u.er=some v) (hL:(r.lots.getD []).length≤SM) (hu:(u.uses.getD []).length≤SM) (hw:∀ x∈u.uses.getD [],(zz r.er x.k).isSome=true) (hd:f134 r u=some D) (hp:qbg r.er u.er=some D.er) (hn:(D.needs.getD []).length≤SM) (hr:(u.results.getD []).length≤SM) (ht:(D.tests.getD []).length≤SM) (hv:u.version ≠ -1):f75 r u=some (qe6 (qe .i64) r.er u.er):=by
 obtain ⟨w,hm⟩:=jni hd hr ht hv
 have hll:(qro r.er (u.uses.getD [])).length≤SM:=by unfold qro; rw [List.length_map]; exact hu
 unfold f75
 rw [jgp hL hu hw]
 simp only [qa,qaz,(qkg hP hv0).1,jlm hL hu hw hd hn,hm,jk7 hll,qwx]
 rw [ky (by simp [SM]),qyt hp hv0,q38 hw]
 congr 1
 show qag _=if u.shipped then 21 else if u.version ≠ v then 32 else _
 cases u.shipped <;> by_cases h1:u.version=v <;> cases qck (qe .i64) r.er D.er u.er <;> cases (qei D.er u.er).isEmpty <;> cases ((qro r.er (u.uses.getD [])).filter (·.held)).isEmpty <;> simp [qag,h1]
theorem jel (hL:(r.lots.getD []).length≤SM) (hu:(u.uses.getD []).length≤SM) (hw:∀ x∈u.uses.getD [],(zz r.er x.k).isSome=true):(qa (itO (qkb r u) 0) fun d=>match d with | .inl _=>some (34:Int) | .inr _=>some 0)=some (if qjq r.er u.er then 34 else 0):=by
 obtain ⟨d,h1,h2⟩:=qtm (u.uses.getD []) (qkb r u) (fun x=>!(qd3 r.er x.k).any (·.held)) (fun d=>match d with | .inl _=>false | .inr _=>true) ⟨.inr ((u.uses.getD []).length:Int),by unfold qkb; simp only [zx]; rfl,rfl⟩ (fun i x hx hi=>by
  obtain ⟨y,hy⟩:=qgm (hw x (List.mem_of_getElem? hx))
  obtain ⟨k,h3,h4⟩:=qw5 hy
  unfold qkb
  simp only [yn hi,cond_true,qa,jf hx,qqf hL,h3,ixI,jf h4,hy,Option.any_some]
  rw [yl (by unfold SM at hu; omega)]
  cases y.held with
  | true=>exact .inr ⟨rfl,.inl (),rfl,rfl⟩
  | false=>exact .inl ⟨rfl,rfl⟩)
 rw [h1]
 have h3:qjq r.er u.er=!((u.uses.getD []).all fun x=>!(qd3 r.er x.k).any (·.held)):=by
  unfold qjq
  rw [show u.er.uses=u.uses.getD [] from rfl]
  induction u.uses.getD [] with
  | nil=>rfl
  | cons x l ih=>rw [List.any_cons,List.all_cons,ih,Bool.not_and,Bool.not_not]
 rw [h3,← h2]
 cases d <;> rfl
theorem jsl {v:Int} (hP:(r.products.getD []).length≤SM) (hv0:qef r.er u.er=some v) (hL:(r.lots.getD []).length≤SM) (hu:(u.uses.getD []).length≤SM) (hw:∀ x∈u.uses.getD [],(zz r.er x.k).isSome=true) (hd:f78 r u=some D) (hp:qbg r.er u.er=some D.er) (hn:(D.needs.getD []).length≤SM) (hr:(u.results.getD []).length≤SM) (ht:(D.tests.getD []).length≤SM):f31 r u=some (qe6 (qe .i64) r.er u.er):=by
 rw [qyt hp hv0]
 unfold f31
 cases hs:u.shipped with
 | true=>rw [show u.er.shipped=true from hs]; rfl
 | false=>
  have hu':(⟨u.name,u.product,u.version,u.uses,u.results,u.partner,false,u.complaints⟩:GUn)=u:=by cases u; simp only at hs; rw [hs]
  rw [show u.er.shipped=false from hs,hu']
  obtain ⟨w,hm⟩:=jr3 (r:=r) (u:=u) hd hr ht
  simp only [cond_false,qa,(qkg hP hv0).2,jog hL hu hw hd hn,hm,qwx,Bool.false_eq_true,if_false]
  have hh:=jel hL hu hw
  simp only [qa] at hh
  by_cases h1:u.version=v
  ·rw [decide_eq_true h1,if_neg (show ¬ u.er.version ≠ v from fun h=>h h1)]
   simp only [cond_true]
   cases qck (qe .i64) r.er D.er u.er
   ·rfl
   ·simp only [cond_true,Bool.not_true,Bool.false_eq_true,if_false]
    cases (qei D.er u.er).isEmpty
    ·rfl
    ·simp only [Bool.not_true,cond_false,Bool.false_eq_true,if_false]
     exact hh
  ·rw [decide_eq_false h1,if_pos (show u.er.version ≠ v from h1)]
   rfl
end Go.Z
namespace Go.Z
open Go Go.Abs Go.W
theorem qg2 {α:Type} {o:Option (List α)} {ys:List α} (h:(o.getD []).length + ys.length≤SM) (hy:ys ≠ []):apO o ys=some (some (o.getD []++ys)):=by
 unfold apO apS
 rw [if_pos h]
 cases o <;> cases ys <;> first | exact absurd rfl hy | rfl
theorem qej {α:Type} {ys:List α} (h:ys.length≤SM):apO (some []) ys=some (some ys):=by
 unfold apO apS
 rw [if_pos (by simpa using h)]
 cases ys <;> rfl
theorem qep {α:Type} {o:Option (List α)} {x:α} (h:(o.getD []).length < SM):(qa (cond o.isNone (some (none,false)) (qa (apO (some []) (o.getD [])) fun v=>some (v,true))) fun v1=>cond v1.2 (qa (apO v1.1 [x]) fun v4=>some v4) (cond v1.1.isNone (qa (apO v1.1 [x]) fun v7=>some v7) none))=some (some (o.getD []++[x])):=by
 cases o with
 | none=>rfl
 | some l=>
  have h':l.length < SM:=h
  simp only [Option.isNone_some,cond_false,Option.getD_some]
  rw [qej (by omega)]
  simp only [qa,cond_true]
  rw [qg2 (o:=some l) (by simp only [Option.getD_some,List.length_singleton]; omega) (by simp)]
  rfl
theorem jk1 {o:Option (List qt)} {x:qt} (h:(o.getD []).length < SM):f164 o x=some (some (o.getD []++[x])):=qep h
theorem jje {o:Option (List GProd)} {x:GProd} (h:(o.getD []).length < SM):f166 o x=some (some (o.getD []++[x])):=qep h
theorem jkn {o:Option (List GUn)} {x:GUn} (h:(o.getD []).length < SM):f183 o x=some (some (o.getD []++[x])):=qep h
theorem jjc {o:Option (List GDoc)} {x:GDoc} (h:(o.getD []).length < SM):f180 o x=some (some (o.getD []++[x])):=qep h
theorem jj9 {o:Option (List GSI)} {x:GSI} (h:(o.getD []).length < SM):f239 o x=some (some (o.getD []++[x])):=qep h
theorem jj3 {o:Option (List qu)} {x:qu} (h:(o.getD []).length < SM):f243 o x=some (some (o.getD []++[x])):=qep h
theorem jjl {o:Option (List GSI)} {x:GSI} (h:(o.getD []).length < SM):f250 o x=some (some (o.getD []++[x])):=qep h
theorem jja {o:Option (List qu)} {x:qu} (h:(o.getD []).length < SM):f194 o x=some (some (o.getD []++[x])):=qep h
theorem qci {α:Type} {o:Option (List α)} {i:Nat} {x y:α} {g:α→Option α} (hl:(o.getD []).length≤SM) (hx:(o.getD [])[i]?=some x) (hg:g x=some y):chO o (i:Int) g=some (some ((o.getD []).set i y)):=by
 unfold chO
 rw [if_pos ⟨hl,by omega⟩,Int.toNat_natCast,hx]
 simp only [hg]
theorem q3m {α:Type} {o:Option (List α)} {i:Nat} {x:α} (hl:(o.getD []).length≤SM) (hx:i < (o.getD []).length):stO o (i:Int) x=some (some ((o.getD []).set i x)):=by
 unfold stO
 rw [if_pos ⟨hl,by omega,by omega⟩,Int.toNat_natCast]
theorem q0s {α:Type} {o:Option (List α)} {x:α} {p:α→Bool} {g:α→Option α} (hl:(o.getD []).length < SM) (hg:∀ y,g y=some x):
  ∃ v w,(cond (decide (0≤ixI ((o.getD []).findIdx? p))) (qa (chO o (ixI ((o.getD []).findIdx? p)) g) fun v4=>some (v4,false)) (qa (some (some (o.getD []++[x]))) fun v6=>some (v6,true)))=some (v,w)∧v.getD []=qak p x (o.getD []):=by
 unfold qak
 cases h:(o.getD []).findIdx? p with
 | none=>exact ⟨_,_,rfl,rfl⟩
 | some k=>
  obtain ⟨y,h1,_⟩:=findIdx?_get h
  rw [show decide (0≤ixI (some k))=true from qdf (some k)]
  simp only [cond_true,ixI]
  rw [qci (Nat.le_of_lt hl) h1 (hg y)]
  exact ⟨_,_,rfl,rfl⟩
theorem jlg {o:Option (List GSI)} {x:GSI} {k:List UInt8} (hl:(o.getD []).length < SM):∃ v w,f173 o x k=some (v,w)∧v.getD []=qak (isK k) x (o.getD []):=by
 unfold f173
 have:qvg o k=some (ixI ((o.getD []).findIdx? (isK k))):=by unfold qvg; exact qa0 (p:=isK k) (Nat.le_of_lt hl) fun i=>rfl
 rw [this]
 simp only [qa]
 rw [jj9 hl]
 exact q0s (p:=isK k) (g:=fun _=>some x) hl fun _=>rfl
theorem jln {o:Option (List qu)} {x s:qu} (hl:(o.getD []).length < SM):∃ v w,f177 o x s=some (v,w)∧v.getD []=qak (isT s.k) x (o.getD []):=by
 unfold f177
 have:qkd o s=some (ixI ((o.getD []).findIdx? (isT s.k))):=by unfold qkd; exact qa0 (p:=isT s.k) (Nat.le_of_lt hl) fun i=>rfl
 rw [this]
 simp only [qa]
 rw [jj3 hl]
 exact q0s (p:=isT s.k) (g:=fun _=>some x) hl fun _=>rfl
theorem jkd {o:Option (List GSI)} {x:GSI} {t:qt} (hl:(o.getD []).length < SM):∃ v w,f191 o x t=some (v,w)∧v.getD []=qak (isK t.name) x (o.getD []):=by
 unfold f191
 have:f188 o t=some (ixI ((o.getD []).findIdx? (isK t.name))):=by unfold f188; exact qa0 (p:=isK t.name) (Nat.le_of_lt hl) fun i=>rfl
 rw [this]
 simp only [qa]
 rw [jjl hl]
 exact q0s (p:=isK t.name) (g:=fun _=>some x) hl fun _=>rfl
theorem ji1 {o:Option (List GSI)} {t:qt} (hl:(o.getD []).length≤SM):f188 o t=some (ixI ((o.getD []).findIdx? (isK t.name))):=by
 unfold f188; exact qa0 (p:=isK t.name) hl fun i=>rfl
theorem jkb {o:Option (List GSI)} {k:List UInt8} (hl:(o.getD []).length≤SM):f171 o k=some (jz ((o.getD []).filter fun x=>!isK k x),qay ((o.getD []).filter fun x=>!isK k x)):=by
 unfold f171
 rw [qw6 (f:=qqe o k) (l:=o.getD []) (p:=fun x=>!isK k x) (q:=fun x=>f172 x k) hl (fun x _=>rfl) (fun s=>rfl)]
 rfl
theorem jdm {o:Option (List GSI)} {k:List UInt8} (hl:(o.getD []).length≤SM):qvb o k=some ((o.getD []).any (isK k)):=by
 have:qtx o k=some (ixI ((o.getD []).findIdx? (isK k))):=by unfold qtx; exact qa0 (p:=isK k) hl fun i=>rfl
 unfold qvb; rw [this]; simp only [qa,qdf,isSome_findIdx?]
theorem jhg {o:Option (List GSI)} {t:qt} (hl:(o.getD []).length≤SM):qvm o t=some ((o.getD []).any (isK t.kind)):=by
 have:quu o t=some (ixI ((o.getD []).findIdx? (isK t.kind))):=by unfold quu; exact qa0 (p:=isK t.kind) hl fun i=>rfl
 unfold qvm; rw [this]; simp only [qa,qdf,isSome_findIdx?]
theorem jfi {o:Option (List qu)} {s:qu} (hl:(o.getD []).length≤SM):qt0 o s=some ((o.getD []).any (isT s.k)):=by
 have:qkd o s=some (ixI ((o.getD []).findIdx? (isT s.k))):=by unfold qkd; exact qa0 (p:=isT s.k) hl fun i=>rfl
 unfold qt0; rw [this]; simp only [qa,qdf,isSome_findIdx?]
theorem jf6 {o:Option (List qu)} {e:GEv} {n:List UInt8} (hn:qw (e.names.getD []) 1=some n) (hl:(o.getD []).length≤SM):qwd o e=some ((o.getD []).any (isT n)):=by
 have:quh o e=some (ixI ((o.getD []).findIdx? (isT n))):=by
  unfold quh
  refine qa0 (p:=isT n) hl fun i=>?_
  unfold qlz f192
  rw [hn]
  rfl
 unfold qwd; rw [this]; simp only [qa,qdf,isSome_findIdx?]
theorem qtc {α β:Type} {l:List α} {h:α→List β} {q:α→Bool} {f:Option (List β) × Bool × Int × Bool→Option ((Option (List β) × Bool × Int × Bool) ⊕ (Option (List β) × Bool × Bool × Int))} (hh:∀ x,(h x).length≤1)
  (hend:∀ o b w,f (o,b,(l.length:Int),w)=some (.inr (o,w,b,(l.length:Int))))
  (hf:∀ (i:Nat) x (a:List β) b,l[i]?=some x→i < l.length→a.length≤i→f (jz a,b,(i:Int),qay a)=some (.inl (jz (a++h x),b || q x,((i + 1:Nat):Int),qay (a++h x)))):
  itO f (none,false,0,false)=some (jz (l.flatMap h),qay (l.flatMap h),l.any q,(l.length:Int)):=by
 have key:∀ (k i:Nat),i + k=l.length→∀ a b,a.length≤i→itO f (jz a,b,(i:Int),qay a)=some (jz (a++(l.drop i).flatMap h),qay (a++(l.drop i).flatMap h),b || (l.drop i).any q,(l.length:Int)):=by
  intro k
  induction k with
  | zero=>
   intro i hi a b _
   have:i=l.length:=by omega
   subst this
   rw [List.drop_eq_nil_of_le (Nat.le_refl _),List.flatMap_nil,List.append_nil,ki (hend _ _ _)]
   simp
  | succ k ih=>
   intro i hi a b ha
   obtain ⟨x,hx⟩:∃ x,l[i]?=some x:=⟨_,List.getElem?_eq_getElem (by omega)⟩
   rw [qc7 (hf i x a b hx (by omega) ha),ih (i + 1) (by omega) _ _ (by rw [List.length_append]; have:=hh x; omega),qbf hx,List.flatMap_cons,List.append_assoc,List.any_cons,Bool.or_assoc]
 have:=key l.length 0 (by omega) [] false (Nat.le_refl _)
 rw [List.drop_zero,List.nil_append,Bool.false_or] at this
 exact this
theorem qo0 {α:Type} {a:List α} {x:α} (h:a.length < SM):cond (qay a) (qa (apO (jz a) [x]) fun v=>some (v,true)) (cond (jz a).isNone (qa (apO (jz a) [x]) fun v=>some (v,true)) none)=some (jz (a++[x]),true):=qdk (k:=fun v=>some (v,true)) h
theorem yh {α β:Type} {h:α→List β} (hh:∀ x,(h x).length≤1):∀ l:List α,(l.flatMap h).length≤l.length
 | []=>Nat.le_refl _
 | x::l=>by rw [List.flatMap_cons,List.length_append,List.length_cons]; have:=hh x; have:=yh hh l; omega
theorem jjw {o:Option (List GSI)} {x:GSI} (hl:(o.getD []).length < SM) (hk:qat (·.k) (o.getD [])) (h0:0≤x.n):∃ v w,f203 o x=some (v,w)∧v.getD []=qac (o.getD []) x.k x.n:=by
 let h:GSI→List GSI:=fun y=>if isK x.k y then (if 0 < x.n then [x] else []) else [y]
 have hh:∀ y,(h y).length≤1:=by intro y; simp only [h]; split <;> (try split) <;> simp
 have L:=qtc (l:=o.getD []) (h:=h) (q:=isK x.k) (f:=qi0 o x) hh (fun o b w=>by unfold qi0; simp only [zx]; rfl) (fun i y a b hy hi ha=>by
  unfold qi0
  simp only [yn hi,cond_true,qa,jf hy]
  rw [yl (by unfold SM at hl; omega)]
  simp only [h,isK]
  by_cases h1:y.k=x.k
  ·by_cases h2:0 < x.n
   ·simp only [h1,h2,decide_true,cond_true,if_true,Bool.or_true]
    rw [qd7]
    exact qdk (x:=x) (k:=fun v=>some (Sum.inl (v,true,((i + 1:Nat):Int),true))) (by unfold SM at hl; omega)
   ·simp [h1,h2]
  ·simp only [h1,decide_false,cond_false,Bool.false_eq_true,if_false,Bool.or_false]
   rw [qd7]
   exact qdk (x:=y) (k:=fun v=>some (Sum.inl (v,b,((i + 1:Nat):Int),true))) (by unfold SM at hl; omega))
 unfold f203
 rw [L]
 simp only [qa]
 have hlen:((o.getD []).flatMap h).length < SM:=Nat.lt_of_le_of_lt (yh hh _) hl
 by_cases hn:x.n=0
 ·have hp:decide (0 < x.n)=false:=by rw [hn]; rfl
  have hf:(o.getD []).flatMap h=(o.getD []).filter fun y=>!isK x.k y:=by
   rw [show h=fun y=>if (!isK x.k y) then [id y] else [] by funext y; simp only [h,hn]; cases isK x.k y <;> rfl,qm7,List.map_id]
  unfold qac
  rw [if_pos hn,hp,← hf]
  cases (o.getD []).any (isK x.k) <;> exact ⟨_,_,rfl,zt _⟩
 ·have hp:decide (0 < x.n)=true:=decide_eq_true (by omega)
  have hf:(o.getD []).flatMap h=(o.getD []).map fun y=>if isK x.k y then x else y:=by
   rw [← qha]
   congr 1
   funext y
   have:0 < x.n:=by omega
   simp only [h,this,if_true]
   cases isK x.k y <;> rfl
  have hpa:=putAll_eq (key:=fun y:GSI=>y.k) (k:=x.k) (x:=x) hk
  unfold qac
  rw [if_neg hn,hp,show (⟨x.k,x.n⟩:GSI)=x from rfl,show qak (isK x.k) x (o.getD [])=qww (isK x.k) x (o.getD []) from hpa.symm]
  unfold qww
  rw [← hf]
  cases ha:(o.getD []).any (isK x.k) with
  | true=>exact ⟨_,_,rfl,by rw [zt]; simp⟩
  | false=>
   simp only [cond_false,cond_true,Bool.false_eq_true,if_false]
   have:=qo0 (x:=x) hlen
   simp only [qa] at this
   rw [this]
   exact ⟨_,_,rfl,zt _⟩
theorem jjz {o:Option (List qu)} {x:qu} (hl:(o.getD []).length < SM) (hk:qat (·.k) (o.getD [])):∃ v w,f204 o x=some (v,w)∧v.getD []=qak (isT x.k) x (o.getD []):=by
 let h:qu→List qu:=fun y=>if isT x.k y then [x] else [y]
 have hh:∀ y,(h y).length≤1:=by intro y; simp only [h]; split <;> simp
 have L:=qtc (l:=o.getD []) (h:=h) (q:=isT x.k) (f:=qj5 o x) hh (fun o b w=>by unfold qj5; simp only [zx]; rfl) (fun i y a b hy hi ha=>by
  unfold qj5
  simp only [yn hi,cond_true,qa,jf hy]
  rw [yl (by unfold SM at hl; omega)]
  simp only [h,isT]
  by_cases h1:y.k=x.k
  ·simp only [h1,decide_true,cond_true,if_true,Bool.or_true]
   rw [qd7]
   exact qdk (x:=x) (k:=fun v=>some (Sum.inl (v,true,((i + 1:Nat):Int),true))) (by unfold SM at hl; omega)
  ·simp only [h1,decide_false,cond_false,Bool.false_eq_true,if_false,Bool.or_false]
   rw [qd7]
   exact qdk (x:=y) (k:=fun v=>some (Sum.inl (v,b,((i + 1:Nat):Int),true))) (by unfold SM at hl; omega))
 unfold f204
 rw [L]
 simp only [qa]
 have hlen:((o.getD []).flatMap h).length < SM:=Nat.lt_of_le_of_lt (yh hh _) hl
 have hf:(o.getD []).flatMap h=(o.getD []).map fun y=>if isT x.k y then x else y:=by
  rw [← qha]
  congr 1
  funext y
  simp only [h]
  cases isT x.k y <;> rfl
 have hpa:=putAll_eq (key:=fun y:qu=>y.k) (k:=x.k) (x:=x) hk
 rw [show qak (isT x.k) x (o.getD [])=qww (isT x.k) x (o.getD []) from hpa.symm]
 unfold qww
 rw [← hf]
 cases ha:(o.getD []).any (isT x.k) with
 | true=>exact ⟨_,_,rfl,by rw [zt]; simp⟩
 | false=>
  simp only [cond_false,Bool.false_eq_true,if_false]
  have:=qo0 (x:=x) hlen
  simp only [qa] at this
  rw [this]
  exact ⟨_,_,rfl,zt _⟩
theorem qyw {α:Type} {f:α→α}:∀ {l:List α},(∀ x∈l,f x=x)→l.map f=l
 | [],_=>rfl
 | x::l,h=>by rw [List.map_cons,h x (List.mem_cons_self ..),qyw fun y hy=>h y (List.mem_cons_of_mem _ hy)]
theorem q48 {k:List UInt8} {F:GSI→GSI}:∀ {l:List GSI},qat (·.k) l→(l.map fun y=>if isK k y then F y else y)=(match l.findIdx? (isK k) with
  | some i=>(match l[i]? with
   | some x=>l.set i (F x)
   | none=>l)
  | none=>l)
 | [],_=>rfl
 | y::l,h=>by
  have h':qat (·.k) l:=(List.nodup_cons.1 h).2
  have hn:¬ y.k∈l.map (·.k):=(List.nodup_cons.1 h).1
  rw [List.map_cons,List.findIdx?_cons]
  cases hy:isK k y with
  | true=>
   have hk:y.k=k:=of_decide_eq_true hy
   simp only [if_true]
   rw [qyw fun x hx=>by
    have:isK k x=false:=decide_eq_false fun hxk=>hn (by rw [hk,← hxk]; exact List.mem_map_of_mem hx)
    rw [this]; rfl]
   rfl
  | false=>
   simp only [Bool.false_eq_true,if_false]
   rw [q48 h']
   cases hi:l.findIdx? (isK k) with
   | none=>rfl
   | some i=>
    obtain ⟨x,h1,_⟩:=findIdx?_get hi
    simp [h1]
theorem jjr {o:Option (List GSI)} {k:List UInt8} {n:Int} (hl:(o.getD []).length < SM) (hk:qat (·.k) (o.getD [])):∃ v w,f252 o k n=some (v,w)∧v.getD []=qe8 (qe .i64) (o.getD []) k n:=by
 let h:GSI→List GSI:=fun y=>if isK k y then [⟨y.k,qe .i64 (y.n + n)⟩] else [y]
 have hh:∀ y,(h y).length≤1:=by intro y; simp only [h]; split <;> simp
 have L:=qtc (l:=o.getD []) (h:=h) (q:=isK k) (f:=qjs o k n) hh (fun o b w=>by unfold qjs; simp only [zx]; rfl) (fun i y a b hy hi ha=>by
  unfold qjs
  simp only [yn hi,cond_true,qa,jf hy]
  rw [yl (by unfold SM at hl; omega)]
  simp only [h,isK]
  by_cases h1:y.k=k
  ·simp only [h1,decide_true,cond_true,if_true,Bool.or_true]
   rw [qd7]
   exact qdk (x:=(⟨k,qe .i64 (y.n + n)⟩:GSI)) (k:=fun v=>some (Sum.inl (v,true,((i + 1:Nat):Int),true))) (by unfold SM at hl; omega)
  ·simp only [h1,decide_false,cond_false,Bool.false_eq_true,if_false,Bool.or_false]
   rw [qd7]
   exact qdk (x:=y) (k:=fun v=>some (Sum.inl (v,b,((i + 1:Nat):Int),true))) (by unfold SM at hl; omega))
 unfold f252
 rw [L]
 simp only [qa]
 have hlen:((o.getD []).flatMap h).length < SM:=Nat.lt_of_le_of_lt (yh hh _) hl
 have hf:(o.getD []).flatMap h=(o.getD []).map fun y=>if isK k y then (⟨k,qe .i64 (n + y.n)⟩:GSI) else y:=by
  rw [← qha]
  congr 1
  funext y
  simp only [h]
  cases hy:isK k y with
  | false=>rfl
  | true=>rw [show y.k=k from of_decide_eq_true hy,Int.add_comm]; rfl
 rw [q48 hk] at hf
 unfold qe8
 cases hi:(o.getD []).findIdx? (isK k) with
 | some i=>
  obtain ⟨x,h1,_⟩:=findIdx?_get hi
  have ha:(o.getD []).any (isK k)=true:=by rw [any_findIdx,hi]; rfl
  rw [hi] at hf
  simp only [h1] at hf ⊢
  rw [ha,hf]
  exact ⟨_,_,rfl,zt _⟩
 | none=>
  have ha:(o.getD []).any (isK k)=false:=by rw [any_findIdx,hi]; rfl
  rw [hi] at hf
  simp only at hf ⊢
  rw [ha]
  have:=qo0 (x:=(⟨k,n⟩:GSI)) hlen
  simp only [qa] at this
  simp only [cond_false]
  rw [this,hf]
  exact ⟨_,_,rfl,zt _⟩
end Go.Z
