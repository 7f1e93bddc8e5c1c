/- Chapter 4. -/
import Derived.Test.YtnjngdcbkkonnaaGreatDoorA5
set_option linter.unusedVariables false
set_option linter.unusedSimpArgs false
set_option maxRecDepth 100000
set_option maxHeartbeats 4000000
namespace Go.Z
open Go Go.Abs
section
variable {H:qk} {b c:ABox} {cs:List (AVal × Bool)} {n:Nat}
theorem qfq:newBox H.length (H++[ABox.hole]) 0 b=some (H++[b]):=by
 unfold newBox
 rw [Nat.add_zero,List.getElem?_append_right (Nat.le_refl _),Nat.sub_self]
 show some ((H++[ABox.hole]).set H.length b)=_
 rw [List.set_append_right _ _ (Nat.le_refl _),Nat.sub_self]
 rfl
theorem qfp:(H++[b])[H.length]?=some b:=by
 rw [List.getElem?_append_right (Nat.le_refl _),Nat.sub_self]; rfl
theorem qfk:jq (H++[ABox.cells cs]) H.length=some cs:=by
 unfold jq
 rw [List.getElem?_append_right (Nat.le_refl _),Nat.sub_self]
 rfl
theorem je2 {t:qk} (h:jq H n=some cs):jq (H++t) n=some cs:=by
 unfold jq at h ⊢
 have hn:n < H.length:=by
  cases hh:H[n]? with
  | none=>rw [hh] at h; cases h
  | some x=>exact (List.getElem?_eq_some_iff.1 hh).1
 rw [List.getElem?_append_left hn]
 exact h
theorem qfr:decide (H.length < (H++[b]).length)=true:=by simp
theorem q6d (h:jq H n=some cs):H[n]?=some (.cells cs):=by
 unfold jq at h
 split at h
 ·next x hx=>cases h; exact hx
 ·cases h
theorem qd4:(H++[b]).set H.length c=H++[c]:=by
 rw [List.set_append_right _ _ (Nat.le_refl _),Nat.sub_self]
 rfl
end
def j6 (v:GEl):ABox:=.cells [(.str v.kind,false),(.int .i64 v.a,false),(.int .i64 v.b,false)]
section
variable {S D:Type}
noncomputable def kl {α:Type} (g:S→α→Option (S ⊕ D)):List α→S→Option (S ⊕ D)
 | [],s=>some (.inl s)
 | v::l,s=>qe (g s v) fun r=>match r with
  | .inl s'=>kl g l s'
  | .inr d=>some (.inr d)
variable (y:S→Option (List GEl)→Option (S ⊕ D)) (ch:Option (List Int)) (ps:Option (List qi)) (c:Bool)
noncomputable def vis:Nat→Option (List GEl)→S→Option (S ⊕ D)
 | 0,x,s=>qe (f198 x) fun q=>y s q.1
 | m + 1,x,s=>qe (zw (ch.getD []) ((x.getD []).length:Int)) fun i=>qe (zw (ps.getD []) i) fun p=>qe (f99 p c) fun vs=>
   cond (decide ((vs.1.getD []).length≤9)) (qe (f198 x) fun q=>cond (q.2 || q.1.isNone) (kl (fun s v=>qe (apO q.1 [v]) fun x'=>vis m x' s) (vs.1.getD []) s) none) none
end
structure Fam (S D:Type) where
 HS:S→qk
 HD:D→qk
 N:Nat
 V:Nat
 b:Nat
 ls:∀ s,(HS s).length=N
 ld:∀ d,(HD d).length=N
 bs:∀ n s,N≤n→jt n (HS s)=true
 bd:∀ n d,N≤n→jt n (HD d)=true
 ch:Option (List Int)
 ps:Option (List qi)
 c:Bool
 hV:∀ s,jq (HS s) V=some [(.fn (.func 197) [] [.vptr (sl 1 qo ch),.vptr (.fn (.yield b) [] []),.vptr (sl 8 qm ps),.vptr (.bool c),.ptr V 0],false)]
section
variable {S D:Type} (F:Fam S D)
def Fam.hr:S ⊕ D→qk
 | .inl s=>F.HS s
 | .inr d=>F.HD d
def isL:S ⊕ D→Bool
 | .inl _=>true
 | .inr _=>false
def Fam.yields (y:S→Option (List GEl)→Option (S ⊕ D)):Prop:=∀ s x (els:List GEl) r,y s x=some r→k9 (X pr) F.b [sl 3 vel x] (F.HS s++els.map j6)=some (.bool (isL r),F.hr r++els.map j6)
theorem Fam.ltV (s:S):F.V < F.N:=by
 have h:=F.hV s
 rw [← F.ls s]
 unfold jq at h
 cases hh:(F.HS s)[F.V]? with
 | none=>rw [hh] at h; cases h
 | some x=>exact (List.getElem?_eq_some_iff.1 hh).1
theorem qnv {n:Nat}:∀ els:List GEl,jt n (els.map j6)=true
 | []=>rfl
 | v::l=>by
  show (ko n (j6 v) && jt n (l.map j6))=true
  rw [qnv l]; rfl
theorem qcq {n:Nat}:∀ {a b:qk},jt n a=true→jt n b=true→jt n (a++b)=true
 | [],b,_,h2=>h2
 | x::a,b,h1,h2=>by
  simp only [jt,Bool.and_eq_true] at h1
  show (ko n x && jt n (a++b))=true
  rw [h1.1,qcq h1.2 h2]; rfl
theorem Fam.below {els:List GEl} {r:S ⊕ D} {n:Nat} (hn:F.N≤n):jt n (F.hr r++els.map j6)=true:=by
 cases r with
 | inl s=>exact qcq (F.bs n s hn) (qnv els)
 | inr d=>exact qcq (F.bd n d hn) (qnv els)
theorem Fam.len {els:List GEl} {r:S ⊕ D}:(F.hr r++els.map j6).length=F.N + els.length:=by
 rw [List.length_append,List.length_map]
 cases r with
 | inl s=>show (F.HS s).length + _=_; rw [F.ls]
 | inr d=>show (F.HD d).length + _=_; rw [F.ld]
end
theorem jah {o28:Bool} {H:qk} {x vs:Option (List GEl)} {v:GEl} {V n:Nat} {i:Int} (hv:zw (vs.getD []) i=some v) (hV:V < H.length):
  X pr (.region 1 [⟨some 32,.indexAddr 3 (.tmp 28) (.tmp 30),none,none⟩,⟨some 33,.load true 3 (.tmp 32),none,none⟩,⟨some 9,.alloc 0 [(.str []),(.int .i64 0),(.int .i64 0)],none,none⟩,⟨none,.store 3 (.tmp 9) (.tmp 33),none,none⟩] (some [0,5,9,28,29,30]))
   ⟨[(0,sl 3 vel x,false),(5,.ptr V 0,false),(28,sl 3 vel vs,o28),(29,.int .i64 n,false),(30,.int .i64 i,false)],H⟩=some (.normal,⟨[(0,sl 3 vel x,false),(5,.ptr V 0,false),(9,.ptr H.length 0,false),(28,sl 3 vel vs,o28),(29,.int .i64 n,false),(30,.int .i64 i,false)],H++[j6 v]⟩):=by
 simp only [go_sem,seval,q9 hv,qfq,qfk,qd4,Nat.add_zero,qfp,qfr]
 rfl
section
variable {S D:Type} (F:Fam S D)
def Fam.args (x:Option (List GEl)):List AVal:=[sl 3 vel x,.vptr (sl 1 qo F.ch),.vptr (.fn (.yield F.b) [] []),.vptr (sl 8 qm F.ps),.vptr (.bool F.c),.ptr F.V 0]
def Fam.visits (f:S→Option (List GEl)→Option (S ⊕ D)):Prop:=∀ s x (els:List GEl) r,f s x=some r→∃ t,jl pr (X pr) 197 (F.args x) (F.HS s++els.map j6)=some (.bool (isL r),false,F.hr r++els.map j6++t)
noncomputable def qsz (f:S→Option (List GEl)→Option (S ⊕ D)) (x vs:Option (List GEl)) (d:Int × S):Option ((Int × S) ⊕ ((Int × S) ⊕ (GEl × D))):=
 cond (decide (d.1 < ((vs.getD []).length:Int))) (qe (zw (vs.getD []) d.1) fun v=>qe (f198 x) fun q=>cond (q.2 || q.1.isNone) (qe (apO q.1 [v]) fun x'=>qe (f d.2 x') fun r=>match r with
  | .inl s'=>some (.inl (qf .i64 (d.1 + 1),s'))
  | .inr e=>some (.inr (.inr (v,e)))) none) (some (.inr (.inl d)))
def qg5 (x vs:Option (List GEl)) (o28:Bool) (els:List GEl) (d:Int × S):ASt:=⟨[(0,sl 3 vel x,false),(5,.ptr F.V 0,false),(28,sl 3 vel vs,o28),(29,.int .i64 ((vs.getD []).length:Int),false),(30,.int .i64 d.1,false)],F.HS d.2++els.map j6⟩
def qml (x vs:Option (List GEl)) (o28:Bool) (els:List GEl):(Int × S) ⊕ (GEl × D)→ji × ASt
 | .inl d=>(.exit 0,⟨[(0,sl 3 vel x,false),(5,.ptr F.V 0,false),(28,sl 3 vel vs,o28),(29,.int .i64 ((vs.getD []).length:Int),false),(30,.int .i64 d.1,false),(31,.bool false,false)],F.HS d.2++els.map j6⟩)
 | .inr d=>(.ret,⟨[(7,.bool false,false)],F.HD d.2++(els++[d.1]).map j6⟩)
theorem jqn {f:S→Option (List GEl)→Option (S ⊕ D)} (hf:F.visits f) {x vs:Option (List GEl)} {o28:Bool} {els:List GEl} (d:Int × S) (r) (h:qsz f x vs d=some r):zj pr qgj (qg5 F x vs o28 els) (qml F x vs o28 els) d r:=by
 obtain ⟨i,s⟩:=d
 unfold qsz at h
 dsimp only at h
 rcases qb h with ⟨h1,k⟩ | ⟨h1,k⟩
 ·obtain ⟨v,h2,k⟩:=qa k
  obtain ⟨⟨x1,w1⟩,h3,k⟩:=qa k
  rcases qb k with ⟨h4,k⟩ | ⟨h4,k⟩
  ·obtain ⟨x',h5,k⟩:=qa k
   obtain ⟨r1,h6,k⟩:=qa k
   have g3:=jcg h3
   have hlt:F.V < (F.HS s++els.map j6).length:=by
    rw [List.length_append,F.ls]; have:=F.ltV s; omega
   have hb:=jah (o28:=o28) (x:=x) (n:=(vs.getD []).length) h2 hlt
   have hV:=je2 (t:=els.map j6++[j6 v]) (F.hV s)
   rw [← List.append_assoc] at hV
   obtain ⟨t,hc⟩:=hf s x' (els++[v]) r1 h6
   have he:F.HS s++(els++[v]).map j6=F.HS s++els.map j6++[j6 v]:=by rw [List.map_append,List.append_assoc]; rfl
   have hlen:(F.HS s++els.map j6++[j6 v]).length=F.N + (els++[v]).length:=by rw [← he]; exact F.len (r:=.inl s)
   have hlen2:(F.HS s++els.map j6).length=F.N + els.length:=F.len (r:=.inl s)
   have ha:zq (F.HS s++els.map j6++[j6 v]).length (.bool (isL r1)) (F.hr r1++(els++[v]).map j6++t)=F.hr r1++(els++[v]).map j6:=by
    rw [hlen]
    exact qeo F.len rfl (F.below (by omega))
   rw [he] at hc
   have hd:((F.HS s++els.map j6++[j6 v])[F.V]?)=some (.cells [(.fn (.func 197) [] [.vptr (sl 1 qo F.ch),.vptr (.fn (.yield F.b) [] []),.vptr (sl 8 qm F.ps),.vptr (.bool F.c),.ptr F.V 0],false)]):=q6d hV
   have hVl:F.V < (F.HS s++els.map j6++[j6 v]).length:=by rw [List.length_append]; omega
   generalize hH:F.HS s++els.map j6=H at *
   simp only [j6,Fam.args] at hd hVl hc ha
   have ap:appR 3 32 (H++[.cells [(.str v.kind,false),(.int .i64 v.a,false),(.int .i64 v.b,false)]]) (cond w1 (some 36) none) (some (sl 3 vel x1)) (some (.list false 3 [.agg [.str v.kind,.int .i64 v.a,.int .i64 v.b]]))=some ⟨sl 3 vel x',true,cond w1 (some 36) none,H++[.cells [(.str v.kind,false),(.int .i64 v.a,false),(.int .i64 v.b,false)]]⟩:=by
    cases w1 with
    | true=>rw [cond_true,qd8 h5]; rfl
    | false=>rw [cond_false,qiw h5 (by simpa using h4)]; rfl
   cases r1 with
   | inl s'=>
    cases k
    have hs:F.hr (.inl s')=F.HS s':=rfl
    refine qq (st':=⟨[(0,sl 3 vel x,false),(5,.ptr F.V 0,false),(28,sl 3 vel vs,o28),(29,.int .i64 ((vs.getD []).length:Int),false),(30,.int .i64 (qf .i64 (i + 1)),false)],F.HS s'++(els++[v]).map j6⟩) ?_ ?_
    ·cases w1 with
     | true=>
      simp only [cond_true,isL,hs] at ap hc ha
      simp only [go_sem,seval,qgj,qg5,h1,hH,q9 h2,qfq,qfk,qd4,Nat.add_zero,qfp,qfr,hd,hVl,decide_true,g3,ap,hc,ha]
     | false=>
      simp only [cond_false,isL,hs] at ap hc ha
      simp only [go_sem,seval,qgj,qg5,h1,hH,q9 h2,qfq,qfk,qd4,Nat.add_zero,qfp,qfr,hd,hVl,decide_true,g3,ap,hc,ha]
    ·have hn:(F.HS s++els.map j6).length=F.N + els.length:=F.len (r:=.inl s)
     have hm:F.HS s'++(els++[v]).map j6=(F.HS s'++els.map j6)++[j6 v]:=by rw [List.map_append,List.append_assoc]; rfl
     show gc (F.HS s++els.map j6).length _=qg5 F x vs o28 els (qf .i64 (i + 1),s')
     rw [hn,hm]
     refine zz (h:=F.HS s'++els.map j6) (h':=[j6 v]) (F.len (r:=.inl s')).symm rfl ?_ (F.below (r:=.inl s') (by omega))
     have b1:Abs.below (F.N + els.length) (sl 3 vel x)=true:=by simp only [go_sem,seval]
     have b2:Abs.below (F.N + els.length) (sl 3 vel vs)=true:=by simp only [go_sem,seval]
     have b3:Abs.below (F.N + els.length) (.ptr F.V 0)=true:=by
      show Nat.blt F.V _=true
      have:=F.ltV s
      exact Nat.ble_eq_true_of_le (by omega)
     show (Abs.below _ (sl 3 vel x) && (Abs.below _ (.ptr F.V 0) && (Abs.below _ (sl 3 vel vs) && (true && (true && true)))))=true
     rw [b1,b2,b3]; rfl
   | inr e=>
    cases k
    have hs:F.hr (.inr e)=F.HD e:=rfl
    refine qj ?_
    cases w1 with
    | true=>
     simp only [cond_true,isL,hs] at ap hc ha
     simp only [go_sem,seval,qgj,qg5,h1,hH,q9 h2,qfq,qfk,qd4,Nat.add_zero,qfp,qfr,hd,hVl,decide_true,g3,ap,hc,ha,qml]
    | false=>
     simp only [cond_false,isL,hs] at ap hc ha
     simp only [go_sem,seval,qgj,qg5,h1,hH,q9 h2,qfq,qfk,qd4,Nat.add_zero,qfp,qfr,hd,hVl,decide_true,g3,ap,hc,ha,qml]
  ·cases k
 ·cases k
  exact qj (by simp only [go_sem,seval,qgj,qg5,h1,qml] <;> rfl)
theorem q9h {f:S→Option (List GEl)→Option (S ⊕ D)} {x vs:Option (List GEl)} {q:Option (List GEl) × Bool} (hx:f198 x=some q) (ho:(q.2 || q.1.isNone)=true) (hl:(vs.getD []).length≤9):∀ {k i:Nat} {s:S} {r},(vs.getD []).length=i + k→kl (fun s v=>qe (apO q.1 [v]) fun x'=>f s x') ((vs.getD []).drop i) s=some r →
  ∃ d,itO (qsz f x vs) ((i:Int),s)=some d∧(match r,d with | .inl s',.inl d'=>d'.2=s' | .inr e,.inr d'=>d'.2=e | _,_=>False)
 | 0,i,s,r,hk,h=>by
  rw [List.drop_eq_nil_of_le (by omega)] at h
  cases h
  refine ⟨.inl ((i:Int),s),qal ?_,rfl⟩
  unfold qsz
  dsimp only
  rw [decide_eq_false (show ¬ (i:Int) < ((vs.getD []).length:Int) by omega)]; rfl
 | k + 1,i,s,r,hk,h=>by
  have hi:i < (vs.getD []).length:=by omega
  have hv:(vs.getD [])[i]?=some (vs.getD [])[i]:=List.getElem?_eq_getElem hi
  rw [qab hv] at h
  simp only [kl] at h
  obtain ⟨r1,h1,h2⟩:=qa h
  have e:qsz f x vs ((i:Int),s)=some (Sum.elim (fun s'=>.inl (((i + 1:Nat):Int),s')) (fun e=>.inr (.inr ((vs.getD [])[i],e))) r1):=by
   obtain ⟨x',h3,h4⟩:=qa h1
   unfold qsz
   dsimp only
   rw [decide_eq_true (show (i:Int) < ((vs.getD []).length:Int) by omega),cond_true,qfm,hv,qd,hx,qd,ho,cond_true,h3,qd,h4,qd,za (x:=(i:Int) + 1) (by omega) (by omega)]
   cases r1 <;> rfl
  cases r1 with
  | inl s'=>
   obtain ⟨d,g1,g2⟩:=q9h hx ho hl (k:=k) (i:=i + 1) (by omega) h2
   exact ⟨d,by rw [qcp e]; exact g1,g2⟩
  | inr e'=>
   cases h2
   exact ⟨_,qal e,rfl⟩
theorem qrs {α:Type} {g g':S→α→Option (S ⊕ D)} (hg:∀ s v r,g s v=some r→g' s v=some r):∀ {l:List α} {s:S} {r},kl g l s=some r→kl g' l s=some r
 | [],s,r,h=>h
 | v::l,s,r,h=>by
  simp only [kl] at h ⊢
  obtain ⟨r1,h1,h2⟩:=qa h
  rw [hg _ _ _ h1,qd]
  cases r1 with
  | inl s'=>exact qrs hg h2
  | inr e=>exact h2
theorem q0w {α:Type} {o v:Option (List α)} {ys:List α} (h:apO o ys=some v):v.getD []=o.getD []++ys:=by
 unfold apO at h
 split at h
 ·cases h
  cases o <;> cases ys <;> simp [apS]
 ·cases h
theorem qqj {h0 b:Nat} {al:Option (List Nat)} {h:qk}:qa9 h0 al false 1 h (some (.vptr (.fn (.yield b) [] [])))=some ⟨.fn (.yield b) [] [],false,none,h⟩:=rfl
theorem q8r {x:Option (List GEl)} {q} (h:f198 x=some q):q.1.getD []=x.getD []:=by
 unfold f198 at h
 cases x with
 | none=>cases h; rfl
 | some l=>
  obtain ⟨v,h1,h2⟩:=qa h
  cases h2
  have:=q0w h1
  simpa using this
theorem qv7 {y:S→Option (List GEl)→Option (S ⊕ D)} (hy:F.yields y):∀ m,F.visits fun s x=>cond (decide ((F.ch.getD []).length=(x.getD []).length + m)) (vis y F.ch F.ps F.c m x s) none
 | 0,s,x,els,r,h=>by
  rcases qb h with ⟨h1,k⟩ | ⟨h1,k⟩
  ·have h1:(F.ch.getD []).length=(x.getD []).length:=by simpa using h1
   unfold vis at k
   obtain ⟨q,h2,k⟩:=qa k
   have g2:=jcg h2
   have g3:=hy s q.1 els r k
   have hd:decide (((x.getD []).length:Int)=((F.ch.getD []).length:Int))=true:=decide_eq_true (by omega)
   unfold Fam.args
   rw [qh (show pr.fns 197=some c197 from rfl) (by simp)]
   refine ⟨[],?_⟩
   rw [List.append_nil]
   simp only [go_sem,seval,c197,hd,qqj,g2,g3]
  ·cases k
 | m + 1,s,x,els,r,h=>by
  rcases qb h with ⟨h1,k⟩ | ⟨h1,k⟩
  ·have h1:(F.ch.getD []).length=(x.getD []).length + (m + 1):=by simpa using h1
   unfold vis at k
   obtain ⟨i,h2,k⟩:=qa k
   obtain ⟨p,h3,k⟩:=qa k
   obtain ⟨vs,h4,k⟩:=qa k
   rcases qb k with ⟨h5,k⟩ | ⟨h5,k⟩
   ·obtain ⟨q,h6,k⟩:=qa k
    rcases qb k with ⟨h7,k⟩ | ⟨h7,k⟩
    ·have ih:=qv7 hy m
     have hd:decide (((x.getD []).length:Int)=((F.ch.getD []).length:Int))=false:=decide_eq_false (by omega)
     have k':kl (fun s v=>qe (apO q.1 [v]) fun x'=>(fun s x=>cond (decide ((F.ch.getD []).length=(x.getD []).length + m)) (vis y F.ch F.ps F.c m x s) none) s x') (vs.1.getD []) s=some r:=qrs (fun s v r hr=>by
      obtain ⟨x',j1,j2⟩:=qa hr
      have hl:(x'.getD []).length=(x.getD []).length + 1:=by rw [q0w j1,q8r h6,List.length_append]; rfl
      rw [j1,qd]
      dsimp only
      rw [decide_eq_true (by omega),cond_true]
      exact j2) k
     obtain ⟨d,g1,g2⟩:=q9h h6 h7 (by simpa using h5) (k:=(vs.1.getD []).length) (i:=0) (by omega) (by rw [List.drop_zero]; exact k')
     have hlo:X pr (.loop qgj) (qg5 F x vs.1 vs.2 els (((0:Nat):Int),s))=some (qml F x vs.1 vs.2 els d):=z7 (jqn F ih) (fun d=>by cases d <;> (intro hh; cases hh)) g1
     have g99:=W99 h4
     unfold Fam.args
     rw [qh (show pr.fns 197=some c197 from rfl) (by simp)]
     simp only [qg5,show ((0:Nat):Int)=0 from rfl] at hlo
     cases r with
     | inl s'=>
      cases d with
      | inl d'=>
       obtain rfl:d'.2=s':=g2
       refine ⟨[],?_⟩
       rw [List.append_nil]
       simp only [qml] at hlo
       simp only [go_sem,seval,c197,hd,qqj,q9 h2,q9 h3,g99,hlo]
       rfl
      | inr d'=>exact g2.elim
     | inr e=>
      cases d with
      | inl d'=>exact g2.elim
      | inr d'=>
       obtain rfl:d'.2=e:=g2
       refine ⟨[j6 d'.1],?_⟩
       simp only [qml] at hlo
       have hm:F.HD d'.2++(els++[d'.1]).map j6=F.HD d'.2++els.map j6++[j6 d'.1]:=by rw [List.map_append,List.append_assoc]; rfl
       rw [hm] at hlo
       simp only [go_sem,seval,c197,hd,qqj,q9 h2,q9 h3,g99,hlo]
       rfl
    ·cases k
   ·cases k
  ·cases k
end
section
variable {S D:Type}
structure Base (S D:Type) where
 R:S→qk
 RD:D→qk
 n:Nat
 b:Nat
 ls:∀ s,(R s).length=n
 ld:∀ d,(RD d).length=n
 bs:∀ k s,n≤k→jt k (R s)=true
 bd:∀ k d,n≤k→jt k (RD d)=true
 hb:b < n
 ch:Option (List Int)
 ps:Option (List qi)
 c:Bool
def qdd (B:Base S D):ABox:=.cells [(.fn (.func 197) [] [.vptr (sl 1 qo B.ch),.vptr (.fn (.yield B.b) [] []),.vptr (sl 8 qm B.ps),.vptr (.bool B.c),.ptr B.n 0],false)]
theorem qse (B:Base S D) {k:Nat} (h:B.n + 1≤k):ko k (qdd B)=true:=by
 have h1:Abs.below k (sl 1 qo B.ch)=true:=by simp only [go_sem,seval]
 have h2:Abs.below k (sl 8 qm B.ps)=true:=by simp only [go_sem,seval]
 have h3:Nat.blt B.b k=true:=Nat.ble_eq_true_of_le (by have:=B.hb; omega)
 have h4:Nat.blt B.n k=true:=Nat.ble_eq_true_of_le (by omega)
 show ((true && (Abs.below k (sl 1 qo B.ch) && ((Nat.blt B.b k && true && true) && (Abs.below k (sl 8 qm B.ps) && (true && (Nat.blt B.n k && true)))))) && true)=true
 rw [h1,h2,h3,h4]; rfl
def Base.fam (B:Base S D):Fam S D where
 HS s:=B.R s++[qdd B]
 HD d:=B.RD d++[qdd B]
 N:=B.n + 1
 V:=B.n
 b:=B.b
 ls s:=by rw [List.length_append,B.ls]; rfl
 ld d:=by rw [List.length_append,B.ld]; rfl
 bs n s h:=qcq (B.bs n s (by omega)) (by show (ko n (qdd B) && true)=true; rw [qse B h]; rfl)
 bd n d h:=qcq (B.bd n d (by omega)) (by show (ko n (qdd B) && true)=true; rw [qse B h]; rfl)
 ch:=B.ch
 ps:=B.ps
 c:=B.c
 hV s:=by
  have h:jq (B.R s++[qdd B]) (B.R s).length=some _:=qfk
  rw [B.ls] at h
  exact h
theorem q50 (B:Base S D) {y:S→Option (List GEl)→Option (S ⊕ D)} (hy:B.fam.yields y) {s:S} {r} (h:vis y B.ch B.ps B.c (B.ch.getD []).length none s=some r):
  jl pr (X pr) 196 [.fn (.yield B.b) [] [],.vptr (sl 1 qo B.ch),.vptr (sl 8 qm B.ps),.vptr (.bool B.c)] (B.R s)=some (.tup [],false,B.fam.hr r):=by
 obtain ⟨t,hc⟩:=qv7 B.fam hy (B.ch.getD []).length s none [] r (by
  show cond (decide ((B.ch.getD []).length=0 + (B.ch.getD []).length)) (vis y B.ch B.ps B.c (B.ch.getD []).length none s) none=some r
  rw [decide_eq_true (Nat.zero_add _).symm,cond_true]
  exact h)
 have e1:B.fam.HS s++([]:List GEl).map j6=B.R s++[qdd B]:=by rw [List.map_nil,List.append_nil]; rfl
 have e2:B.fam.hr r++([]:List GEl).map j6++t=B.fam.hr r++t:=by rw [List.map_nil,List.append_nil]
 rw [e1,e2] at hc
 have hl:(B.R s++[qdd B]).length=B.n + 1:=by rw [List.length_append,B.ls]; rfl
 have ha:zq (B.R s++[qdd B]).length (.bool (isL r)) (B.fam.hr r++t)=B.fam.hr r:=by
  rw [hl]
  refine qeo ?_ rfl ?_
  ·have:=B.fam.len (els:=[]) (r:=r)
   rw [List.map_nil,List.append_nil] at this
   exact this
  ·have:=B.fam.below (els:=[]) (r:=r) (n:=B.n + 1) (Nat.le_refl _)
   rw [List.map_nil,List.append_nil] at this
   exact this
 have hn:=B.ls s
 have ea:B.fam.args none=[.list true 0 [],.vptr (sl 1 qo B.ch),.vptr (.fn (.yield B.b) [] []),.vptr (sl 8 qm B.ps),.vptr (.bool B.c),.ptr (B.R s).length 0]:=by rw [hn]; rfl
 rw [ea] at hc
 have ev:qdd B=.cells [(.fn (.func 197) [] [.vptr (sl 1 qo B.ch),.vptr (.fn (.yield B.b) [] []),.vptr (sl 8 qm B.ps),.vptr (.bool B.c),.ptr (B.R s).length 0],false)]:=by unfold qdd; rw [hn]
 rw [ev] at hc ha
 generalize B.R s=H at *
 rw [qh (show pr.fns 196=some c196 from rfl) (by simp)]
 simp only [go_sem,seval,c196,qfq,qfk,qd4,Nat.add_zero,qfp,qfr,decide_true,hc,ha]
end
def qet:ACode:=pcB (pcR (pcL (pcR (pcR (pcR c111.body)))))
def qdu:ACode:=rfA qet
def qcj:ACode:=rfB qet
theorem q8u:qet=.rangeFunc (.tmp 29) [30] qdu qcj:=rfl
section
variable (ch:Option (List Int)) (ps:Option (List qi)) (c:Bool) (w:Int)
def qca:Env:=[(6,.vptr (.int .i64 w),false),(8,.ptr 0 0,false),(9,.ptr 1 0,false),(11,.ptr 2 0,false),(29,.fn (.func 196) [] [.vptr (sl 1 qo ch),.vptr (sl 8 qm ps),.vptr (.bool c)],false)]
def qcs (s:jy):List (AVal × Bool):=[(.int .i64 s.a,false),(.int .i64 s.b,false),(.int .i64 s.c,false),(.int .i64 s.d,false)]
def qbd (pd:Option ji):ABox:=.loop ⟨qca ch ps c w,[30],qdu,qcj,pd⟩
def yo (e:Int) (s:jy) (lp:ABox) (T:qk):qk:=.cells (qcs ⟨0,0,0,0⟩)::.cells [(.int .i64 e,false)]::.cells (qcs s)::lp::T
end
section
variable {e:Int} {s:jy} {lp:ABox} {T:qk} {x:ABox}
theorem K0:(yo e s lp T++[x])[0]?=some (.cells (qcs ⟨0,0,0,0⟩)):=rfl
theorem K1:(yo e s lp T++[x])[1]?=some (.cells [(.int .i64 e,false)]):=rfl
theorem K2:(yo e s lp T++[x])[2]?=some (.cells (qcs s)):=rfl
theorem L0:decide (0 < (yo e s lp T++[x]).length)=true:=rfl
theorem L1':decide (1 < (yo e s lp T++[x]).length)=true:=rfl
theorem L2':decide (2 < (yo e s lp T++[x]).length)=true:=rfl
theorem S0:(yo e s lp T++[x]).set 0 (.cells [(.int .i64 0,false),(.int .i64 0,false),(.int .i64 0,false),(.int .i64 0,false)])=yo e s lp T++[x]:=rfl
theorem S1 {e':Int}:(yo e s lp T++[x]).set 1 (.cells [(.int .i64 e',false)])=yo e' s lp T++[x]:=rfl
theorem S2 {a b c d:Int}:(yo e s lp T++[x]).set 2 (.cells [(.int .i64 a,false),(.int .i64 b,false),(.int .i64 c,false),(.int .i64 d,false)])=yo e ⟨a,b,c,d⟩ lp T++[x]:=rfl
theorem q63:(yo e s lp T).length=T.length + 4:=rfl
theorem nbK {b:ABox}:newBox (T.length + 4) (yo e s lp T++[ABox.hole]) 0 b=some (yo e s lp T++[b]):=qfq (H:=yo e s lp T)
theorem geK:(yo e s lp T++[x])[T.length + 4]?=some x:=qfp (H:=yo e s lp T)
theorem ltK:decide (T.length + 4 < (yo e s lp T++[x]).length)=true:=qfr (H:=yo e s lp T)
theorem seK {b:ABox}:(yo e s lp T++[x]).set (T.length + 4) b=yo e s lp T++[b]:=qd4 (H:=yo e s lp T)
def qph (w:Int) (x:Option (List GEl)):Env:=[(6,.vptr (.int .i64 w),false),(8,.ptr 0 0,false),(9,.ptr 1 0,false),(11,.ptr 2 0,false),(12,sl 3 vel x,false)]
def isQ (s:jy):Bool:=decide (s.a=0) && decide (s.b=0) && decide (s.c=0) && decide (s.d=0)
noncomputable def upd (s:jy) (v:GRat):Option jy:=
 qe (f127 ⟨(cond (isQ s) (⟨v.num,v.den,v.num,v.den⟩:jy) s).a,(cond (isQ s) (⟨v.num,v.den,v.num,v.den⟩:jy) s).b⟩ v) fun b1=>
 qe (f127 v ⟨(cond (isQ s) (⟨v.num,v.den,v.num,v.den⟩:jy) s).c,(cond (isQ s) (⟨v.num,v.den,v.num,v.den⟩:jy) s).d⟩) fun b2=>
 some ⟨cond b1 v.num (cond (isQ s) (⟨v.num,v.den,v.num,v.den⟩:jy) s).a,cond b1 v.den (cond (isQ s) (⟨v.num,v.den,v.num,v.den⟩:jy) s).b,cond b2 v.num (cond (isQ s) (⟨v.num,v.den,v.num,v.den⟩:jy) s).c,cond b2 v.den (cond (isQ s) (⟨v.num,v.den,v.num,v.den⟩:jy) s).d⟩
noncomputable def qmd (w:Int) (s:jy) (x:Option (List GEl)):Option (jy ⊕ (Int × jy)):=
 qe (f57 x w) fun v=>cond (decide (v.2=0)) (qe (upd s v.1) fun s'=>some (.inl s')) (some (.inr (v.2,s)))
theorem q69 {w:Int} {x':Option (List GEl)} {v:GRat × Int} (h1:f57 x' w=some v) (h2:decide (v.2=0)=false):
  ∃ en t,X pr qcj ⟨qph w x',yo 0 s lp T⟩=some (.ret,⟨en,yo v.2 s lp T++t⟩):=by
 have g1:=W57 h1
 have h2':¬ v.2=0:=by simpa using h2
 simp only [go_sem,seval,qcj,rfB,qet,pcB,pcL,pcR,c111,qph,g1,h2,h2',q63,nbK,seK,Nat.add_zero,geK,ltK,K0,K1,K2,L0,L1',L2',S0,S1,S2,qcs]
 exact ⟨_,_,rfl⟩
theorem q3w {w:Int} {x':Option (List GEl)} {v:GRat × Int} {s':jy} (h1:f57 x' w=some v) (h2:decide (v.2=0)=true) (h3:upd s v.1=some s'):
  ∃ en t,X pr qcj ⟨qph w x',yo 0 s lp T⟩=some (.normal,⟨en,yo 0 s' lp T++t⟩):=by
 have g1:=W57 h1
 have h2':v.2=0:=by simpa using h2
 unfold upd at h3
 obtain ⟨b1,h4,h3⟩:=qa h3
 obtain ⟨b2,h5,h3⟩:=qa h3
 cases h3
 have g4:=qv9 h4
 have g5:=qv9 h5
 cases hq:isQ s with
 | true=>
  rw [hq] at g4 g5
  simp only [cond_true] at g4 g5 ⊢
  have hq':(decide (s.a=0) && decide (s.b=0) && decide (s.c=0) && decide (s.d=0))=true:=hq
  cases b1 <;> cases b2 <;>
  ·simp only [go_sem,seval,qcj,rfB,qet,pcB,pcL,pcR,c111,qph,g1,h2,h2',hq',g4,g5,q63,nbK,seK,Nat.add_zero,geK,ltK,K0,K1,K2,L0,L1',L2',S0,S1,S2,qcs]
   exact ⟨_,_,rfl⟩
 | false=>
  rw [hq] at g4 g5
  simp only [cond_false] at g4 g5 ⊢
  have hq':(decide (s.a=0) && decide (s.b=0) && decide (s.c=0) && decide (s.d=0))=false:=hq
  cases b1 <;> cases b2 <;>
  ·simp only [go_sem,seval,qcj,rfB,qet,pcB,pcL,pcR,c111,qph,g1,h2,h2',hq',g4,g5,q63,nbK,seK,Nat.add_zero,geK,ltK,K0,K1,K2,L0,L1',L2',S0,S1,S2,qcs]
   exact ⟨_,_,rfl⟩
end
section
variable (ch:Option (List Int)) (ps:Option (List qi)) (c:Bool) (w:Int)
theorem qsk {e:Int} {s:jy} {pd:Option ji} {k:Nat} (h:4≤k):jt k (yo e s (qbd ch ps c w pd) [])=true:=by
 have h1:Abs.below k (sl 1 qo ch)=true:=by simp only [go_sem,seval]
 have h2:Abs.below k (sl 8 qm ps)=true:=by simp only [go_sem,seval]
 have h3:∀ b,b < 4→Nat.blt b k=true:=fun b hb=>Nat.ble_eq_true_of_le (by omega)
 have he:y9 k (qca ch ps c w)=true:=by
  show (true && (Nat.blt 0 k && (Nat.blt 1 k && (Nat.blt 2 k && ((true && (Abs.below k (sl 1 qo ch) && (Abs.below k (sl 8 qm ps) && (true && true)))) && true)))))=true
  rw [h1,h2,h3 0 (by omega),h3 1 (by omega),h3 2 (by omega)]; rfl
 show ((true && (true && (true && (true && true)))) && ((true && true) && ((true && (true && (true && (true && true)))) && (y9 k (qca ch ps c w) && true))))=true
 rw [he]; rfl
def qc1:Base jy (Int × jy) where
 R s:=yo 0 s (qbd ch ps c w none) []
 RD d:=yo d.1 d.2 (qbd ch ps c w (some .ret)) []
 n:=4
 b:=3
 ls _:=rfl
 ld _:=rfl
 bs k s h:=qsk ch ps c w h
 bd k d h:=qsk ch ps c w h
 hb:=by decide
 ch:=ch
 ps:=ps
 c:=c
theorem jby:(qc1 ch ps c w).fam.yields (qmd w):=by
 intro s x els r h
 have eH:∀ s,(qc1 ch ps c w).fam.HS s++els.map j6=yo 0 s (qbd ch ps c w none) (qdd (qc1 ch ps c w)::els.map j6):=fun _=>rfl
 have eD:∀ d:Int × jy,(qc1 ch ps c w).fam.HD d++els.map j6=yo d.1 d.2 (qbd ch ps c w (some .ret)) (qdd (qc1 ch ps c w)::els.map j6):=fun _=>rfl
 have hbel:∀ r,jt (els.length + 5) ((qc1 ch ps c w).fam.hr r++els.map j6)=true:=fun r=>(qc1 ch ps c w).fam.below (show 5≤els.length + 5 by omega)
 generalize hT:qdd (qc1 ch ps c w)::els.map j6=T at eH eD
 have hlT:T.length=els.length + 1:=by rw [← hT,List.length_cons,List.length_map]
 show k9 (X pr) 3 [sl 3 vel x] _=_
 rw [eH]
 have g:∀ e s pd t,zu (yo e s (qbd ch ps c w pd) T++t) 3=some (.loop ⟨qca ch ps c w,[30],qdu,qcj,pd⟩):=fun _ _ _ _=>rfl
 have g0:∀ e s pd,zu (yo e s (qbd ch ps c w pd) T) 3=some (.loop ⟨qca ch ps c w,[30],qdu,qcj,pd⟩):=fun _ _ _=>rfl
 have se:qcr (noOwn (qca ch ps c w)) [30] [sl 3 vel x]=some ((30,sl 3 vel x,false)::qca ch ps c w):=rfl
 have as_run:∀ H,X pr qdu ⟨(30,sl 3 vel x,false)::qca ch ps c w,H⟩=some (.normal,⟨qph w x,H⟩):=by
  intro H
  simp only [go_sem,seval,qdu,rfA,qet,pcB,pcL,pcR,c111,qca] <;> rfl
 have st:∀ e s pd pd' t,(yo e s (qbd ch ps c w pd) T++t).set 3 (.loop ⟨qca ch ps c w,[30],qdu,qcj,pd'⟩)=yo e s (qbd ch ps c w pd') T++t:=fun _ _ _ _ _=>rfl
 have st0:∀ e s pd pd',(yo e s (qbd ch ps c w pd) T).set 3 (.loop ⟨qca ch ps c w,[30],qdu,qcj,pd'⟩)=yo e s (qbd ch ps c w pd') T:=fun _ _ _ _=>rfl
 have hl:∀ e s pd,(yo e s (qbd ch ps c w pd) T).length=els.length + 5:=fun _ _ _=>by show T.length + 4=_; omega
 unfold qmd at h
 obtain ⟨v,h1,h⟩:=qa h
 unfold k9
 rcases qb h with ⟨h2,k⟩ | ⟨h2,k⟩
 ·obtain ⟨s',h3,k⟩:=qa k
  cases k
  obtain ⟨en,t,hb⟩:=q3w (lp:=qbd ch ps c w (some .normal)) (T:=T) h1 h2 h3
  have ha:zq (els.length + 5) (.bool true) (yo 0 s' (qbd ch ps c w none) T++t)=yo 0 s' (qbd ch ps c w none) T:=qeo (hl _ _ _) rfl (by have:=hbel (.inl s'); rw [show (qc1 ch ps c w).fam.hr (.inl s')++els.map j6=yo 0 s' (qbd ch ps c w none) T from eH s'] at this; exact this)
  simp only [g0,se,as_run,Option.isNone_none,cond_true,st0,hl,hb,g,st,ha]
  show _=some (AVal.bool true,(qc1 ch ps c w).fam.HS s'++els.map j6)
  rw [eH]
 ·cases k
  obtain ⟨en,t,hb⟩:=q69 (s:=s) (lp:=qbd ch ps c w (some .normal)) (T:=T) h1 h2
  have ha:zq (els.length + 5) (.bool true) (yo v.2 s (qbd ch ps c w (some .ret)) T++t)=yo v.2 s (qbd ch ps c w (some .ret)) T:=qeo (hl _ _ _) rfl (by have:=hbel (.inr (v.2,s)); rw [show (qc1 ch ps c w).fam.hr (.inr (v.2,s))++els.map j6=yo v.2 s (qbd ch ps c w (some .ret)) T from eD (v.2,s)] at this; exact this)
  simp only [g0,se,as_run,Option.isNone_none,cond_true,st0,hl,hb,g,st,ha]
  show _=some (AVal.bool false,(qc1 ch ps c w).fam.HD (v.2,s)++els.map j6)
  rw [eD]
theorem q7t {s:jy} {r} (h:vis (qmd w) ch ps c (ch.getD []).length none s=some r):X pr qet ⟨qca ch ps c w,[.cells (qcs ⟨0,0,0,0⟩),.cells [(.int .i64 0,false)],.cells (qcs s)]⟩=some (match r with
  | .inl s'=>(.normal,⟨qca ch ps c w,[.cells (qcs ⟨0,0,0,0⟩),.cells [(.int .i64 0,false)],.cells (qcs s')]⟩)
  | .inr d=>(.ret,⟨qca ch ps c w,[.cells (qcs ⟨0,0,0,0⟩),.cells [(.int .i64 d.1,false)],.cells (qcs d.2)]⟩)):=by
 have h1:=q50 (qc1 ch ps c w) (jby ch ps c w) h
 have hb:∀ e s',jt 3 [ABox.cells (qcs ⟨0,0,0,0⟩),.cells [(.int .i64 e,false)],.cells (qcs s')]=true:=fun _ _=>rfl
 rw [q8u,qop]
 unfold qbh
 have hn:(zg qdu && zg qcj)=true:=rfl
 have he:ql (qca ch ps c w) (.tmp 29)=some (.fn (.func 196) [] [.vptr (sl 1 qo ch),.vptr (sl 8 qm ps),.vptr (.bool c)]):=rfl
 simp only [hn,cond_true,he,List.nil_append,List.cons_append]
 have h1':jl pr (X pr) 196 [.fn (.yield [ABox.cells (qcs ⟨0,0,0,0⟩),.cells [(.int .i64 0,false)],.cells (qcs s)].length) [] [],.vptr (sl 1 qo ch),.vptr (sl 8 qm ps),.vptr (.bool c)] (.cells (qcs ⟨0,0,0,0⟩)::.cells [(.int .i64 0,false)]::.cells (qcs s)::[.loop ⟨qca ch ps c w,[30],qdu,qcj,none⟩])=some (.tup [],false,(qc1 ch ps c w).fam.hr r):=h1
 rw [h1']
 cases r with
 | inl s'=>
  have hg:zu ((qc1 ch ps c w).fam.hr (.inl s')) [ABox.cells (qcs ⟨0,0,0,0⟩),.cells [(.int .i64 0,false)],.cells (qcs s)].length=some (.loop ⟨qca ch ps c w,[30],qdu,qcj,none⟩):=rfl
  have ht:((qc1 ch ps c w).fam.hr (.inl s')).take [ABox.cells (qcs ⟨0,0,0,0⟩),.cells [(.int .i64 0,false)],.cells (qcs s)].length=[.cells (qcs ⟨0,0,0,0⟩),.cells [(.int .i64 0,false)],.cells (qcs s')]:=rfl
  simp only [hg,ht]
  rw [show jt [ABox.cells (qcs ⟨0,0,0,0⟩),.cells [(.int .i64 0,false)],.cells (qcs s)].length [ABox.cells (qcs ⟨0,0,0,0⟩),.cells [(.int .i64 0,false)],.cells (qcs s')]=true from rfl]
  rfl
 | inr d=>
  have hg:zu ((qc1 ch ps c w).fam.hr (.inr d)) [ABox.cells (qcs ⟨0,0,0,0⟩),.cells [(.int .i64 0,false)],.cells (qcs s)].length=some (.loop ⟨qca ch ps c w,[30],qdu,qcj,some .ret⟩):=rfl
  have ht:((qc1 ch ps c w).fam.hr (.inr d)).take [ABox.cells (qcs ⟨0,0,0,0⟩),.cells [(.int .i64 0,false)],.cells (qcs s)].length=[.cells (qcs ⟨0,0,0,0⟩),.cells [(.int .i64 d.1,false)],.cells (qcs d.2)]:=rfl
  simp only [hg,ht]
  rw [show jt [ABox.cells (qcs ⟨0,0,0,0⟩),.cells [(.int .i64 0,false)],.cells (qcs s)].length [ABox.cells (qcs ⟨0,0,0,0⟩),.cells [(.int .i64 d.1,false)],.cells (qcs d.2)]=true from rfl]
  rfl
end
end Go.Z
