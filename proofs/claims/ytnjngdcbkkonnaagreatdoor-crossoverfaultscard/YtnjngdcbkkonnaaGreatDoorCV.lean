/-
  Chapter 4: the ladders of a choice: a recursive visit, on any heap.
-/
import Derived.Test.YtnjngdcbkkonnaaGreatDoorA5
set_option linter.unusedVariables false
set_option linter.unusedSimpArgs false
set_option maxRecDepth 100000
set_option maxHeartbeats 4000000
namespace Go.Z
open Go Go.Abs
section
variable {H:ql} {b c:ABox} {cs:List (AVal × Bool)} {n:Nat}
theorem qhc:newBox H.length (H++[ABox.hole]) 0 b=some (H++[b]):=by
 unfold newBox
 rw [Nat.add_zero,List.getElem?_append_right (Nat.le_refl _),Nat.sub_self]
 show some ((H++[ABox.hole]).set H.length b)=_
 rw [List.set_append_right _ _ (Nat.le_refl _),Nat.sub_self]
 rfl
theorem qg6:(H++[b])[H.length]?=some b:=by
 rw [List.getElem?_append_right (Nat.le_refl _),Nat.sub_self]; rfl
theorem qew:jp (H++[ABox.cells cs]) H.length=some cs:=by
 unfold jp
 rw [List.getElem?_append_right (Nat.le_refl _),Nat.sub_self]
 rfl
theorem jcs {t:ql} (h:jp H n=some cs):jp (H++t) n=some cs:=by
 unfold jp at h ⊢
 have hn:n < H.length:=by
  cases hh:H[n]? with
  | none=>rw [hh] at h; cases h
  | some x=>exact (List.getElem?_eq_some_iff.1 hh).1
 rw [List.getElem?_append_left hn]
 exact h
theorem qg9:decide (H.length < (H++[b]).length)=true:=by simp
theorem q3e (h:jp H n=some cs):H[n]?=some (.cells cs):=by
 unfold jp at h
 split at h
 ·next x hx=>cases h; exact hx
 ·cases h
theorem qe1:(H++[b]).set H.length c=H++[c]:=by
 rw [List.set_append_right _ _ (Nat.le_refl _),Nat.sub_self]
 rfl
end
def zg (v:GEl):ABox:=.cells [(.str v.kind,false),(.int .i64 v.a,false),(.int .i64 v.b,false)]
section
variable {S D:Type}
noncomputable def kj {α:Type} (g:S→α→Option (S ⊕ D)):List α→S→Option (S ⊕ D)
 | [],s=>some (.inl s)
 | v::l,s=>qd (g s v) fun r=>match r with
  | .inl s'=>kj g l s'
  | .inr d=>some (.inr d)
variable (y:S→Option (List GEl)→Option (S ⊕ D)) (ch:Option (List Int)) (ps:Option (List qi)) (c:Bool)
noncomputable def vis:Nat→Option (List GEl)→S→Option (S ⊕ D)
 | 0,x,s=>qd (f198 x) fun q=>y s q.1
 | m + 1,x,s=>qd (j7 (ch.getD []) ((x.getD []).length:Int)) fun i=>qd (j7 (ps.getD []) i) fun p=>qd (f99 p c) fun vs=>
   cond (decide ((vs.1.getD []).length≤9)) (qd (f198 x) fun q=>cond (q.2 || q.1.isNone) (kj (fun s v=>qd (apO q.1 [v]) fun x'=>vis m x' s) (vs.1.getD []) s) none) none
end
structure Fam (S D:Type) where
 HS:S→ql
 HD:D→ql
 N:Nat
 V:Nat
 b:Nat
 ls:∀ s,(HS s).length=N
 ld:∀ d,(HD d).length=N
 bs:∀ n s,N≤n→jz n (HS s)=true
 bd:∀ n d,N≤n→jz n (HD d)=true
 ch:Option (List Int)
 ps:Option (List qi)
 c:Bool
 hV:∀ s,jp (HS s) V=some [(.fn (.func 197) [] [.vptr (sl 1 qu ch),.vptr (.fn (.yield b) [] []),.vptr (sl 8 qn ps),.vptr (.bool c),.ptr V 0],false)]
section
variable {S D:Type} (F:Fam S D)
def Fam.hr:S ⊕ D→ql
 | .inl s=>F.HS s
 | .inr d=>F.HD d
def isL:S ⊕ D→Bool
 | .inl _=>true
 | .inr _=>false
def Fam.yields (y:S→Option (List GEl)→Option (S ⊕ D)):Prop:=∀ s x (els:List GEl) r,y s x=some r→kx (X pr) F.b [sl 3 vel x] (F.HS s++els.map zg)=some (.bool (isL r),F.hr r++els.map zg)
theorem Fam.ltV (s:S):F.V < F.N:=by
 have h:=F.hV s
 rw [← F.ls s]
 unfold jp at h
 cases hh:(F.HS s)[F.V]? with
 | none=>rw [hh] at h; cases h
 | some x=>exact (List.getElem?_eq_some_iff.1 hh).1
theorem qmi {n:Nat}:∀ els:List GEl,jz n (els.map zg)=true
 | []=>rfl
 | v::l=>by
  show (y9 n (zg v) && jz n (l.map zg))=true
  rw [qmi l]; rfl
theorem qcf {n:Nat}:∀ {a b:ql},jz n a=true→jz n b=true→jz n (a++b)=true
 | [],b,_,h2=>h2
 | x::a,b,h1,h2=>by
  simp only [jz,Bool.and_eq_true] at h1
  show (y9 n x && jz n (a++b))=true
  rw [h1.1,qcf h1.2 h2]; rfl
theorem Fam.below {els:List GEl} {r:S ⊕ D} {n:Nat} (hn:F.N≤n):jz n (F.hr r++els.map zg)=true:=by
 cases r with
 | inl s=>exact qcf (F.bs n s hn) (qmi els)
 | inr d=>exact qcf (F.bd n d hn) (qmi els)
theorem Fam.len {els:List GEl} {r:S ⊕ D}:(F.hr r++els.map zg).length=F.N + els.length:=by
 rw [List.length_append,List.length_map]
 cases r with
 | inl s=>show (F.HS s).length + _=_; rw [F.ls]
 | inr d=>show (F.HD d).length + _=_; rw [F.ld]
end
theorem q8c {o28:Bool} {H:ql} {x vs:Option (List GEl)} {v:GEl} {V n:Nat} {i:Int} (hv:j7 (vs.getD []) i=some v) (hV:V < H.length):
  X pr (.region 1 [⟨some 32,.indexAddr 3 (.tmp 28) (.tmp 30),none,none⟩,⟨some 33,.load true 3 (.tmp 32),none,none⟩,⟨some 9,.alloc 0 [(.str []),(.int .i64 0),(.int .i64 0)],none,none⟩,⟨none,.store 3 (.tmp 9) (.tmp 33),none,none⟩] (some [0,5,9,28,29,30]))
   ⟨[(0,sl 3 vel x,false),(5,.ptr V 0,false),(28,sl 3 vel vs,o28),(29,.int .i64 n,false),(30,.int .i64 i,false)],H⟩=some (.normal,⟨[(0,sl 3 vel x,false),(5,.ptr V 0,false),(9,.ptr H.length 0,false),(28,sl 3 vel vs,o28),(29,.int .i64 n,false),(30,.int .i64 i,false)],H++[zg v]⟩):=by
 simp only [go_sem,seval,qw hv,qhc,qew,qe1,Nat.add_zero,qg6,qg9]
 rfl
section
variable {S D:Type} (F:Fam S D)
def Fam.args (x:Option (List GEl)):List AVal:=[sl 3 vel x,.vptr (sl 1 qu F.ch),.vptr (.fn (.yield F.b) [] []),.vptr (sl 8 qn F.ps),.vptr (.bool F.c),.ptr F.V 0]
def Fam.visits (f:S→Option (List GEl)→Option (S ⊕ D)):Prop:=∀ s x (els:List GEl) r,f s x=some r→∃ t,jl pr (X pr) 197 (F.args x) (F.HS s++els.map zg)=some (.bool (isL r),false,F.hr r++els.map zg++t)
noncomputable def qrz (f:S→Option (List GEl)→Option (S ⊕ D)) (x vs:Option (List GEl)) (d:Int × S):Option ((Int × S) ⊕ ((Int × S) ⊕ (GEl × D))):=
 cond (decide (d.1 < ((vs.getD []).length:Int))) (qd (j7 (vs.getD []) d.1) fun v=>qd (f198 x) fun q=>cond (q.2 || q.1.isNone) (qd (apO q.1 [v]) fun x'=>qd (f d.2 x') fun r=>match r with
  | .inl s'=>some (.inl (qg .i64 (d.1 + 1),s'))
  | .inr e=>some (.inr (.inr (v,e)))) none) (some (.inr (.inl d)))
def qgk (x vs:Option (List GEl)) (o28:Bool) (els:List GEl) (d:Int × S):ASt:=⟨[(0,sl 3 vel x,false),(5,.ptr F.V 0,false),(28,sl 3 vel vs,o28),(29,.int .i64 ((vs.getD []).length:Int),false),(30,.int .i64 d.1,false)],F.HS d.2++els.map zg⟩
def qlh (x vs:Option (List GEl)) (o28:Bool) (els:List GEl):(Int × S) ⊕ (GEl × D)→jg × ASt
 | .inl d=>(.exit 0,⟨[(0,sl 3 vel x,false),(5,.ptr F.V 0,false),(28,sl 3 vel vs,o28),(29,.int .i64 ((vs.getD []).length:Int),false),(30,.int .i64 d.1,false),(31,.bool false,false)],F.HS d.2++els.map zg⟩)
 | .inr d=>(.ret,⟨[(7,.bool false,false)],F.HD d.2++(els++[d.1]).map zg⟩)
theorem jp5 {f:S→Option (List GEl)→Option (S ⊕ D)} (hf:F.visits f) {x vs:Option (List GEl)} {o28:Bool} {els:List GEl} (d:Int × S) (r) (h:qrz f x vs d=some r):zd pr qf2 (qgk F x vs o28 els) (qlh F x vs o28 els) d r:=by
 obtain ⟨i,s⟩:=d
 unfold qrz at h
 dsimp only at h
 rcases qb h with ⟨h1,k⟩ | ⟨h1,k⟩
 ·obtain ⟨v,h2,k⟩:=qa k
  obtain ⟨⟨x1,w1⟩,h3,k⟩:=qa k
  rcases qb k with ⟨h4,k⟩ | ⟨h4,k⟩
  ·obtain ⟨x',h5,k⟩:=qa k
   obtain ⟨r1,h6,k⟩:=qa k
   have g3:=jev h3
   have hlt:F.V < (F.HS s++els.map zg).length:=by
    rw [List.length_append,F.ls]; have:=F.ltV s; omega
   have hb:=q8c (o28:=o28) (x:=x) (n:=(vs.getD []).length) h2 hlt
   have hV:=jcs (t:=els.map zg++[zg v]) (F.hV s)
   rw [← List.append_assoc] at hV
   obtain ⟨t,hc⟩:=hf s x' (els++[v]) r1 h6
   have he:F.HS s++(els++[v]).map zg=F.HS s++els.map zg++[zg v]:=by rw [List.map_append,List.append_assoc]; rfl
   have hlen:(F.HS s++els.map zg++[zg v]).length=F.N + (els++[v]).length:=by rw [← he]; exact F.len (r:=.inl s)
   have hlen2:(F.HS s++els.map zg).length=F.N + els.length:=F.len (r:=.inl s)
   have ha:yc (F.HS s++els.map zg++[zg v]).length (.bool (isL r1)) (F.hr r1++(els++[v]).map zg++t)=F.hr r1++(els++[v]).map zg:=by
    rw [hlen]
    exact ql3 F.len rfl (F.below (by omega))
   rw [he] at hc
   have hd:((F.HS s++els.map zg++[zg v])[F.V]?)=some (.cells [(.fn (.func 197) [] [.vptr (sl 1 qu F.ch),.vptr (.fn (.yield F.b) [] []),.vptr (sl 8 qn F.ps),.vptr (.bool F.c),.ptr F.V 0],false)]):=q3e hV
   have hVl:F.V < (F.HS s++els.map zg++[zg v]).length:=by rw [List.length_append]; omega
   generalize hH:F.HS s++els.map zg=H at *
   simp only [zg,Fam.args] at hd hVl hc ha
   have ap:appR 3 32 (H++[.cells [(.str v.kind,false),(.int .i64 v.a,false),(.int .i64 v.b,false)]]) (cond w1 (some 36) none) (some (sl 3 vel x1)) (some (.list false 3 [.agg [.str v.kind,.int .i64 v.a,.int .i64 v.b]]))=some ⟨sl 3 vel x',true,cond w1 (some 36) none,H++[.cells [(.str v.kind,false),(.int .i64 v.a,false),(.int .i64 v.b,false)]]⟩:=by
    cases w1 with
    | true=>rw [cond_true,qay h5]; rfl
    | false=>rw [cond_false,qfy h5 (by simpa using h4)]; rfl
   cases r1 with
   | inl s'=>
    cases k
    have hs:F.hr (.inl s')=F.HS s':=rfl
    refine qo (st':=⟨[(0,sl 3 vel x,false),(5,.ptr F.V 0,false),(28,sl 3 vel vs,o28),(29,.int .i64 ((vs.getD []).length:Int),false),(30,.int .i64 (qg .i64 (i + 1)),false)],F.HS s'++(els++[v]).map zg⟩) ?_ ?_
    ·cases w1 with
     | true=>
      simp only [cond_true,isL,hs] at ap hc ha
      simp only [go_sem,seval,qf2,qgk,h1,hH,qw h2,qhc,qew,qe1,Nat.add_zero,qg6,qg9,hd,hVl,decide_true,g3,ap,hc,ha]
     | false=>
      simp only [cond_false,isL,hs] at ap hc ha
      simp only [go_sem,seval,qf2,qgk,h1,hH,qw h2,qhc,qew,qe1,Nat.add_zero,qg6,qg9,hd,hVl,decide_true,g3,ap,hc,ha]
    ·have hn:(F.HS s++els.map zg).length=F.N + els.length:=F.len (r:=.inl s)
     have hm:F.HS s'++(els++[v]).map zg=(F.HS s'++els.map zg)++[zg v]:=by rw [List.map_append,List.append_assoc]; rfl
     show gc (F.HS s++els.map zg).length _=qgk F x vs o28 els (qg .i64 (i + 1),s')
     rw [hn,hm]
     refine zp (h:=F.HS s'++els.map zg) (h':=[zg v]) (F.len (r:=.inl s')).symm rfl ?_ (F.below (r:=.inl s') (by omega))
     have b1:Abs.below (F.N + els.length) (sl 3 vel x)=true:=by simp only [go_sem,seval]
     have b2:Abs.below (F.N + els.length) (sl 3 vel vs)=true:=by simp only [go_sem,seval]
     have b3:Abs.below (F.N + els.length) (.ptr F.V 0)=true:=by
      show Nat.blt F.V _=true
      have:=F.ltV s
      exact Nat.ble_eq_true_of_le (by omega)
     show (Abs.below _ (sl 3 vel x) && (Abs.below _ (.ptr F.V 0) && (Abs.below _ (sl 3 vel vs) && (true && (true && true)))))=true
     rw [b1,b2,b3]; rfl
   | inr e=>
    cases k
    have hs:F.hr (.inr e)=F.HD e:=rfl
    refine qj ?_
    cases w1 with
    | true=>
     simp only [cond_true,isL,hs] at ap hc ha
     simp only [go_sem,seval,qf2,qgk,h1,hH,qw h2,qhc,qew,qe1,Nat.add_zero,qg6,qg9,hd,hVl,decide_true,g3,ap,hc,ha,qlh]
    | false=>
     simp only [cond_false,isL,hs] at ap hc ha
     simp only [go_sem,seval,qf2,qgk,h1,hH,qw h2,qhc,qew,qe1,Nat.add_zero,qg6,qg9,hd,hVl,decide_true,g3,ap,hc,ha,qlh]
  ·cases k
 ·cases k
  exact qj (by simp only [go_sem,seval,qf2,qgk,h1,qlh] <;> rfl)
theorem q74 {f:S→Option (List GEl)→Option (S ⊕ D)} {x vs:Option (List GEl)} {q:Option (List GEl) × Bool} (hx:f198 x=some q) (ho:(q.2 || q.1.isNone)=true) (hl:(vs.getD []).length≤9):∀ {k i:Nat} {s:S} {r},(vs.getD []).length=i + k→kj (fun s v=>qd (apO q.1 [v]) fun x'=>f s x') ((vs.getD []).drop i) s=some r →
  ∃ d,itO (qrz f x vs) ((i:Int),s)=some d∧(match r,d with | .inl s',.inl d'=>d'.2=s' | .inr e,.inr d'=>d'.2=e | _,_=>False)
 | 0,i,s,r,hk,h=>by
  rw [List.drop_eq_nil_of_le (by omega)] at h
  cases h
  refine ⟨.inl ((i:Int),s),qad ?_,rfl⟩
  unfold qrz
  dsimp only
  rw [decide_eq_false (show ¬ (i:Int) < ((vs.getD []).length:Int) by omega)]; rfl
 | k + 1,i,s,r,hk,h=>by
  have hi:i < (vs.getD []).length:=by omega
  have hv:(vs.getD [])[i]?=some (vs.getD [])[i]:=List.getElem?_eq_getElem hi
  rw [z6 hv] at h
  simp only [kj] at h
  obtain ⟨r1,h1,h2⟩:=qa h
  have e:qrz f x vs ((i:Int),s)=some (Sum.elim (fun s'=>.inl (((i + 1:Nat):Int),s')) (fun e=>.inr (.inr ((vs.getD [])[i],e))) r1):=by
   obtain ⟨x',h3,h4⟩:=qa h1
   unfold qrz
   dsimp only
   rw [decide_eq_true (show (i:Int) < ((vs.getD []).length:Int) by omega),cond_true,qhy,hv,qe,hx,qe,ho,cond_true,h3,qe,h4,qe,zu (x:=(i:Int) + 1) (by omega) (by omega)]
   cases r1 <;> rfl
  cases r1 with
  | inl s'=>
   obtain ⟨d,g1,g2⟩:=q74 hx ho hl (k:=k) (i:=i + 1) (by omega) h2
   exact ⟨d,by rw [qch e]; exact g1,g2⟩
  | inr e'=>
   cases h2
   exact ⟨_,qad e,rfl⟩
theorem qrt {α:Type} {g g':S→α→Option (S ⊕ D)} (hg:∀ s v r,g s v=some r→g' s v=some r):∀ {l:List α} {s:S} {r},kj g l s=some r→kj g' l s=some r
 | [],s,r,h=>h
 | v::l,s,r,h=>by
  simp only [kj] at h ⊢
  obtain ⟨r1,h1,h2⟩:=qa h
  rw [hg _ _ _ h1,qe]
  cases r1 with
  | inl s'=>exact qrt hg h2
  | inr e=>exact h2
theorem qzh {α:Type} {o v:Option (List α)} {ys:List α} (h:apO o ys=some v):v.getD []=o.getD []++ys:=by
 unfold apO at h
 split at h
 ·cases h
  cases o <;> cases ys <;> simp [apS]
 ·cases h
theorem qpe {h0 b:Nat} {al:Option (List Nat)} {h:ql}:qaz h0 al false 1 h (some (.vptr (.fn (.yield b) [] [])))=some ⟨.fn (.yield b) [] [],false,none,h⟩:=rfl
theorem q6v {x:Option (List GEl)} {q} (h:f198 x=some q):q.1.getD []=x.getD []:=by
 unfold f198 at h
 cases x with
 | none=>cases h; rfl
 | some l=>
  obtain ⟨v,h1,h2⟩:=qa h
  cases h2
  have:=qzh h1
  simpa using this
theorem qvx {y:S→Option (List GEl)→Option (S ⊕ D)} (hy:F.yields y):∀ m,F.visits fun s x=>cond (decide ((F.ch.getD []).length=(x.getD []).length + m)) (vis y F.ch F.ps F.c m x s) none
 | 0,s,x,els,r,h=>by
  rcases qb h with ⟨h1,k⟩ | ⟨h1,k⟩
  ·have h1:(F.ch.getD []).length=(x.getD []).length:=by simpa using h1
   unfold vis at k
   obtain ⟨q,h2,k⟩:=qa k
   have g2:=jev h2
   have g3:=hy s q.1 els r k
   have hd:decide (((x.getD []).length:Int)=((F.ch.getD []).length:Int))=true:=decide_eq_true (by omega)
   unfold Fam.args
   rw [qf (show pr.fns 197=some c197 from rfl) (by simp)]
   refine ⟨[],?_⟩
   rw [List.append_nil]
   simp only [go_sem,seval,c197,hd,qpe,g2,g3]
  ·cases k
 | m + 1,s,x,els,r,h=>by
  rcases qb h with ⟨h1,k⟩ | ⟨h1,k⟩
  ·have h1:(F.ch.getD []).length=(x.getD []).length + (m + 1):=by simpa using h1
   unfold vis at k
   obtain ⟨i,h2,k⟩:=qa k
   obtain ⟨p,h3,k⟩:=qa k
   obtain ⟨vs,h4,k⟩:=qa k
   rcases qb k with ⟨h5,k⟩ | ⟨h5,k⟩
   ·obtain ⟨q,h6,k⟩:=qa k
    rcases qb k with ⟨h7,k⟩ | ⟨h7,k⟩
    ·have ih:=qvx hy m
     have hd:decide (((x.getD []).length:Int)=((F.ch.getD []).length:Int))=false:=decide_eq_false (by omega)
     have k':kj (fun s v=>qd (apO q.1 [v]) fun x'=>(fun s x=>cond (decide ((F.ch.getD []).length=(x.getD []).length + m)) (vis y F.ch F.ps F.c m x s) none) s x') (vs.1.getD []) s=some r:=qrt (fun s v r hr=>by
      obtain ⟨x',j1,j2⟩:=qa hr
      have hl:(x'.getD []).length=(x.getD []).length + 1:=by rw [qzh j1,q6v h6,List.length_append]; rfl
      rw [j1,qe]
      dsimp only
      rw [decide_eq_true (by omega),cond_true]
      exact j2) k
     obtain ⟨d,g1,g2⟩:=q74 h6 h7 (by simpa using h5) (k:=(vs.1.getD []).length) (i:=0) (by omega) (by rw [List.drop_zero]; exact k')
     have hlo:X pr (.loop qf2) (qgk F x vs.1 vs.2 els (((0:Nat):Int),s))=some (qlh F x vs.1 vs.2 els d):=zi (jp5 F ih) (fun d=>by cases d <;> (intro hh; cases hh)) g1
     have g99:=W99 h4
     unfold Fam.args
     rw [qf (show pr.fns 197=some c197 from rfl) (by simp)]
     simp only [qgk,show ((0:Nat):Int)=0 from rfl] at hlo
     cases r with
     | inl s'=>
      cases d with
      | inl d'=>
       obtain rfl:d'.2=s':=g2
       refine ⟨[],?_⟩
       rw [List.append_nil]
       simp only [qlh] at hlo
       simp only [go_sem,seval,c197,hd,qpe,qw h2,qw h3,g99,hlo]
       rfl
      | inr d'=>exact g2.elim
     | inr e=>
      cases d with
      | inl d'=>exact g2.elim
      | inr d'=>
       obtain rfl:d'.2=e:=g2
       refine ⟨[zg d'.1],?_⟩
       simp only [qlh] at hlo
       have hm:F.HD d'.2++(els++[d'.1]).map zg=F.HD d'.2++els.map zg++[zg d'.1]:=by rw [List.map_append,List.append_assoc]; rfl
       rw [hm] at hlo
       simp only [go_sem,seval,c197,hd,qpe,qw h2,qw h3,g99,hlo]
       rfl
    ·cases k
   ·cases k
  ·cases k
end
section
variable {S D:Type}
structure Base (S D:Type) where
 R:S→ql
 RD:D→ql
 n:Nat
 b:Nat
 ls:∀ s,(R s).length=n
 ld:∀ d,(RD d).length=n
 bs:∀ k s,n≤k→jz k (R s)=true
 bd:∀ k d,n≤k→jz k (RD d)=true
 hb:b < n
 ch:Option (List Int)
 ps:Option (List qi)
 c:Bool
def qek (B:Base S D):ABox:=.cells [(.fn (.func 197) [] [.vptr (sl 1 qu B.ch),.vptr (.fn (.yield B.b) [] []),.vptr (sl 8 qn B.ps),.vptr (.bool B.c),.ptr B.n 0],false)]
theorem qqq (B:Base S D) {k:Nat} (h:B.n + 1≤k):y9 k (qek B)=true:=by
 have h1:Abs.below k (sl 1 qu B.ch)=true:=by simp only [go_sem,seval]
 have h2:Abs.below k (sl 8 qn B.ps)=true:=by simp only [go_sem,seval]
 have h3:Nat.blt B.b k=true:=Nat.ble_eq_true_of_le (by have:=B.hb; omega)
 have h4:Nat.blt B.n k=true:=Nat.ble_eq_true_of_le (by omega)
 show ((true && (Abs.below k (sl 1 qu B.ch) && ((Nat.blt B.b k && true && true) && (Abs.below k (sl 8 qn B.ps) && (true && (Nat.blt B.n k && true)))))) && true)=true
 rw [h1,h2,h3,h4]; rfl
def Base.fam (B:Base S D):Fam S D where
 HS s:=B.R s++[qek B]
 HD d:=B.RD d++[qek B]
 N:=B.n + 1
 V:=B.n
 b:=B.b
 ls s:=by rw [List.length_append,B.ls]; rfl
 ld d:=by rw [List.length_append,B.ld]; rfl
 bs n s h:=qcf (B.bs n s (by omega)) (by show (y9 n (qek B) && true)=true; rw [qqq B h]; rfl)
 bd n d h:=qcf (B.bd n d (by omega)) (by show (y9 n (qek B) && true)=true; rw [qqq B h]; rfl)
 ch:=B.ch
 ps:=B.ps
 c:=B.c
 hV s:=by
  have h:jp (B.R s++[qek B]) (B.R s).length=some _:=qew
  rw [B.ls] at h
  exact h
theorem jcr (B:Base S D) {y:S→Option (List GEl)→Option (S ⊕ D)} (hy:B.fam.yields y) {s:S} {r} (h:vis y B.ch B.ps B.c (B.ch.getD []).length none s=some r):
  jl pr (X pr) 196 [.fn (.yield B.b) [] [],.vptr (sl 1 qu B.ch),.vptr (sl 8 qn B.ps),.vptr (.bool B.c)] (B.R s)=some (.tup [],false,B.fam.hr r):=by
 obtain ⟨t,hc⟩:=qvx B.fam hy (B.ch.getD []).length s none [] r (by
  show cond (decide ((B.ch.getD []).length=0 + (B.ch.getD []).length)) (vis y B.ch B.ps B.c (B.ch.getD []).length none s) none=some r
  rw [decide_eq_true (Nat.zero_add _).symm,cond_true]
  exact h)
 have e1:B.fam.HS s++([]:List GEl).map zg=B.R s++[qek B]:=by rw [List.map_nil,List.append_nil]; rfl
 have e2:B.fam.hr r++([]:List GEl).map zg++t=B.fam.hr r++t:=by rw [List.map_nil,List.append_nil]
 rw [e1,e2] at hc
 have hl:(B.R s++[qek B]).length=B.n + 1:=by rw [List.length_append,B.ls]; rfl
 have ha:yc (B.R s++[qek B]).length (.bool (isL r)) (B.fam.hr r++t)=B.fam.hr r:=by
  rw [hl]
  refine ql3 ?_ rfl ?_
  ·have:=B.fam.len (els:=[]) (r:=r)
   rw [List.map_nil,List.append_nil] at this
   exact this
  ·have:=B.fam.below (els:=[]) (r:=r) (n:=B.n + 1) (Nat.le_refl _)
   rw [List.map_nil,List.append_nil] at this
   exact this
 have hn:=B.ls s
 have ea:B.fam.args none=[.list true 0 [],.vptr (sl 1 qu B.ch),.vptr (.fn (.yield B.b) [] []),.vptr (sl 8 qn B.ps),.vptr (.bool B.c),.ptr (B.R s).length 0]:=by rw [hn]; rfl
 rw [ea] at hc
 have ev:qek B=.cells [(.fn (.func 197) [] [.vptr (sl 1 qu B.ch),.vptr (.fn (.yield B.b) [] []),.vptr (sl 8 qn B.ps),.vptr (.bool B.c),.ptr (B.R s).length 0],false)]:=by unfold qek; rw [hn]
 rw [ev] at hc ha
 generalize B.R s=H at *
 rw [qf (show pr.fns 196=some c196 from rfl) (by simp)]
 simp only [go_sem,seval,c196,qhc,qew,qe1,Nat.add_zero,qg6,qg9,decide_true,hc,ha]
end
end Go.Z
