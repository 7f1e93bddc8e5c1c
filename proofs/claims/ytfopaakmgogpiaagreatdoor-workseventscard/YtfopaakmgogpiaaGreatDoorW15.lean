/- Chapter 10. -/
import Derived.Test.YtfopaakmgogpiaaGreatDoorW6
import Derived.Test.YtfopaakmgogpiaaGreatDoorCA
import Derived.Test.YtfopaakmgogpiaaGreatDoorW4
import Derived.Test.YtfopaakmgogpiaaGreatDoorAbsL
set_option linter.unusedVariables false
set_option linter.unusedSimpArgs false
set_option maxRecDepth 100000
set_option maxHeartbeats 4000000
namespace Go.Z
open Go Go.Abs Go.W
noncomputable def q74 (a0:GSI) (e0:List (List UInt8 × Int)):Option Bool:=
 some (decide ((qe2 e0 a0.k) < a0.n))
theorem j36 {a0:GSI} {e0:List (List UInt8 × Int)} {r} (h:q74 a0 e0=some r):qn pr (X pr) 211 [aN a0,.vptr (.map 0)] [.map (km e0)]=some (.bool r,false,[.map (km e0)]):=by
 unfold q74 at h
 have hr:decide ((qe2 e0 a0.k) < a0.n)=r:=Option.some.inj h
 subst hr
 rw [qk (show pr.fns 211=some c211 from rfl) (by simp)]
 simp only [go_sem,seval,c211,jhz] <;> rfl
noncomputable def qr7 (a0:Option (List GSI)) (e0:List (List UInt8 × Int)) (s0:Int):Option (Int ⊕ (Int ⊕ Int)):=
 cond (decide (s0 < ((a0.getD []).length:Int)))
  (qa (qw (a0.getD []) s0) fun v14=>
  qa (q74 v14 e0) fun v16=>
  cond v16
   (some (.inr (.inl s0)))
   (some (.inl (qe .i64 (s0 + 1)))))
  (some (.inr (.inr s0)))
def qjt (a0:Option (List GSI)) (e0:List (List UInt8 × Int)) (s0:Int):ASt:=⟨[(0,sl 2 vsi a0,false),(1,.fn (.func 211) [] [.vptr (.map 0)],false),(7,Lv a0,false),(8,Iv s0,false)],[.map (km e0)]⟩
def qj3 (a0:Option (List GSI)) (e0:List (List UInt8 × Int)):Int ⊕ Int→jd × ASt
 | .inl d=>(.ret,⟨[(4,Iv d,false)],[.map (km e0)]⟩)
 | .inr d=>(.exit 0,⟨[(0,sl 2 vsi a0,false),(1,.fn (.func 211) [] [.vptr (.map 0)],false),(7,Lv a0,false),(8,Iv d,false),(9,.bool false,false)],[.map (km e0)]⟩)
theorem ji3 (a0:Option (List GSI)) (e0:List (List UInt8 × Int)) (s0:Int) (r) (h:qr7 a0 e0 s0=some r):jy pr qa9 (qjt a0 e0) (qj3 a0 e0) s0 r:=by
 unfold qr7 at h
 repeat' first | (replace h:=qb h; obtain ⟨d,g,h⟩:=h; with_reducible first | replace g:=j36 g | skip) | (replace h:=qd h; rcases h with ⟨g,h⟩ | ⟨g,h⟩) | fail
 all_goals (cases h <;> (first | (refine jb ?_; simp only [go_sem,seval,qa9,qjt,qv,qj3,*] <;> rfl) | (refine js ?_; simp only [go_sem,seval,qa9,qjt,qv,qj3,*] <;> rfl)))
theorem jlc (a0:Option (List GSI)) (e0:List (List UInt8 × Int)) {s0:Int} {d} (h:itO (qr7 a0 e0) s0=some d):X pr (.loop qa9) (qjt a0 e0 s0)=some (qj3 a0 e0 d):=zf (ji3 a0 e0) (fun d=>by rcases d with d|d <;> (intro hh; cases hh)) h
noncomputable def qu4 (a0:Option (List GSI)) (e0:List (List UInt8 × Int)):Option Int:=
 qa (itO (qr7 a0 e0) 0) fun d19=>match d19 with
  | .inl d21=>
   some d21
  | .inr d22=>
   some (-1)
theorem j1o {a0:Option (List GSI)} {e0:List (List UInt8 × Int)} {r} (h:qu4 a0 e0=some r):qn pr (X pr) 235 [sl 2 vsi a0,.fn (.func 211) [] [.vptr (.map 0)]] [.map (km e0)]=some (Iv r,false,[.map (km e0)]):=by
 unfold qu4 at h
 rw [qk (show pr.fns 235=some c235 from rfl) (by simp)]
 repeat' first | (replace h:=qb h; obtain ⟨d,g,h⟩:=h; with_reducible first | (replace g:=jlc a0 e0 g; rcases d with d | d <;> dsimp only [qjt,qj3,zi] at g h) | skip) | (replace h:=qd h; rcases h with ⟨g,h⟩ | ⟨g,h⟩) | fail
 all_goals (cases h <;> (simp only [go_sem,seval,c235,*] <;> rfl))
noncomputable def qvr (a0:Option (List GSI)) (e0:List (List UInt8 × Int)):Option Bool:=
 qa (qu4 a0 e0) fun v1=>
 some (decide (0≤v1))
theorem jwk {a0:Option (List GSI)} {e0:List (List UInt8 × Int)} {r} (h:qvr a0 e0=some r):qn pr (X pr) 168 [sl 2 vsi a0,.fn (.func 211) [] [.vptr (.map 0)]] [.map (km e0)]=some (.bool r,false,[.map (km e0)]):=by
 unfold qvr at h
 obtain ⟨v1,h2,h⟩:=qb h
 have wh2:qn pr (X pr) 235 [sl 2 vsi a0,.fn (.func 211) [] [.vptr (.map 0)]] [.map (km e0)]=some (Iv v1,false,[.map (km e0)]):=j1o h2
 have hr:decide (0≤v1)=r:=Option.some.inj h
 subst hr
 rw [qk (show pr.fns 168=some c168 from rfl) (by simp)]
 simp only [go_sem,seval,c168,wh2] <;> rfl
noncomputable def f143 (a0:qt):Option Bool:=
 some a0.held
theorem zez (hp:qf) {a0:qt} {r} (h:f143 a0=some r):qn pr (X pr) 143 [aL a0] hp=some (.bool r,false,hp):=by
 unfold f143 at h
 have hr:a0.held=r:=Option.some.inj h
 subst hr
 rw [qk (show pr.fns 143=some c143 from rfl) (by simp)]
 simp only [go_sem,seval,c143] <;> rfl
noncomputable def qo7 (a0:Option (List qt)) (s0:(Option (List qt)) × Int × Bool):Option (((Option (List qt)) × Int × Bool) ⊕ (((Option (List qt)) × Bool × Int))):=
 cond (decide (s0.2.1 < ((a0.getD []).length:Int)))
  (qa (qw (a0.getD []) s0.2.1) fun v20=>
  qa (f143 v20) fun v22=>
  cond v22
   (cond s0.2.2
    (qa (apO s0.1 [v20]) fun v26=>
    some (.inl (v26,qe .i64 (s0.2.1 + 1),true)))
    (cond s0.1.isNone
     (qa (apO s0.1 [v20]) fun v29=>
     some (.inl (v29,qe .i64 (s0.2.1 + 1),true)))
     (none)))
   (some (.inl (s0.1,qe .i64 (s0.2.1 + 1),s0.2.2))))
  (some (.inr (s0.1,s0.2.2,s0.2.1)))
def qlu (a0:Option (List qt)) (s0:(Option (List qt)) × Int × Bool):ASt:=⟨[(1,.fn (.func 143) [] [],false),(5,sl 5 jg s0.1,s0.2.2),(8,sl 5 jg a0,false),(9,Lv a0,false),(10,Iv s0.2.1,false)],[]⟩
def ql6 (a0:Option (List qt)) (d:((Option (List qt)) × Bool × Int)):jd × ASt:=(.exit 0,⟨[(1,.fn (.func 143) [] [],false),(5,sl 5 jg d.1,d.2.1),(8,sl 5 jg a0,false),(9,Lv a0,false),(10,Iv d.2.2,false),(11,.bool false,false)],[]⟩)
theorem jov (a0:Option (List qt)) (s0:(Option (List qt)) × Int × Bool) (r) (h:qo7 a0 s0=some r):jy pr qrf (qlu a0) (ql6 a0) s0 r:=by
 unfold qo7 at h
 repeat' first | (replace h:=qb h; obtain ⟨d,g,h⟩:=h; with_reducible first | replace g:=zez [] g | replace g:=qse g | skip) | (replace h:=qd h; rcases h with ⟨g,h⟩ | ⟨g,h⟩) | fail
 all_goals (cases h <;> (first | (refine jb ?_; simp only [go_sem,seval,qrf,qlu,qv,ql6,*] <;> rfl) | (refine js ?_; simp only [go_sem,seval,qrf,qlu,qv,ql6,*] <;> rfl)))
theorem jnq (a0:Option (List qt)) {s0:(Option (List qt)) × Int × Bool} {d} (h:itO (qo7 a0) s0=some d):X pr (.loop qrf) (qlu a0 s0)=some (ql6 a0 d):=zf (jov a0) (fun d hh=>by cases hh) h
noncomputable def f142 (a0:Option (List qt)):Option ((Option (List qt)) × Bool):=
 qa (itO (qo7 a0) (none,0,false)) fun d31=>
 some (d31.1,d31.2.1)
theorem j9b {a0:Option (List qt)} {r} (h:f142 a0=some r):qc pr (X pr) 142 [sl 5 jg a0,.fn (.func 143) [] []]=some (sl 5 jg r.1,r.2):=by
 unfold f142 at h
 refine kg c142 ?_
 repeat' first | (replace h:=qb h; obtain ⟨d,g,h⟩:=h; with_reducible first | (replace g:=jnq a0 g; dsimp only [qlu,ql6,zi] at g h) | skip) | (replace h:=qd h; rcases h with ⟨g,h⟩ | ⟨g,h⟩) | fail
 all_goals (cases h <;> (simp only [go_sem,seval,c142,*]; exact ⟨_,rfl⟩))
end Go.Z
namespace Go.Z
open Go Go.Abs Go.W
def pcL:ACode→ACode
 | .seq a _=>a
 | x=>x
def pcR:ACode→ACode
 | .seq _ b=>b
 | x=>x
def pcB:ACode→ACode
 | .block _ b=>b
 | x=>x
def rfA:ACode→ACode
 | .rangeFunc _ _ a _=>a
 | x=>x
def rfB:ACode→ACode
 | .rangeFunc _ _ _ b=>b
 | x=>x
theorem qtz {n:Nat} {v:AVal} {h t:qf} (hn:h.length=n) (hv:Abs.below n v=true) (hb:zn n h=true):jr n v (h++t)=h:=by
 have ht:(h++t).take n=h:=by rw [← hn,List.take_left']; rfl
 unfold jr
 rw [ht,hv,hb]
 cases hc:Nat.ble (h++t).length n with
 | true=>
  have:=Nat.le_of_ble_eq_true hc
  rw [List.length_append,hn] at this
  have:t=[]:=List.eq_nil_of_length_eq_zero (by omega)
  subst this; simp
 | false=>rfl
theorem ya {n:Nat} {v:AVal} {h:qf} (hn:h.length=n):jr n v h=h:=by
 unfold jr
 rw [Nat.ble_eq_true_of_le (by omega)]; rfl
section
variable {σ:Type} (r:GReg) (u:GUn) (H:σ→qf) (step:σ→qt→Int→Option σ)
noncomputable def qgz (x:Int × σ):Option ((Int × σ) ⊕ (Int × σ)):=
 cond (decide (x.1 < ((u.uses.getD []).length:Int)))
  (qa (qw (u.uses.getD []) x.1) fun s=>qa (f72 r s.k) fun v=>qa (qw (r.lots.getD []) v) fun l=>qa (step x.2 l s.n) fun y=>some (.inl (qe .i64 (x.1 + 1),y)))
  (some (.inr x))
def qrt (x:Int × σ):ASt:=⟨[(0,.fn (.yield 1) [] [],false),(2,.vptr (aR r),false),(7,sl 2 vsi u.uses,false),(8,Lv u.uses,false),(9,Iv x.1,false)],H x.2⟩
def qz2 (x:Int × σ):jd × ASt:=(.exit 0,⟨[(0,.fn (.yield 1) [] [],false),(2,.vptr (aR r),false),(7,sl 2 vsi u.uses,false),(8,Lv u.uses,false),(9,Iv x.1,false),(10,.bool false,false)],H x.2⟩)
theorem zfd (hy:∀ x l n y,step x l n=some y→kx (X pr) 1 [aL l,Iv n] (H x)=some (.bool true,H y)) (hl:∀ x,(H x).length=2) (x:Int × σ) (q) (h:qgz r u step x=some q):jy pr qpb (qrt r u H) (qz2 r u H) x q:=by
 unfold qgz at h
 rcases qd h with ⟨h1,h⟩ | ⟨h1,h⟩
 ·obtain ⟨s,h2,h⟩:=qb h
  obtain ⟨v,h3,h⟩:=qb h
  obtain ⟨l,h4,h⟩:=qb h
  obtain ⟨y,h5,h⟩:=qb h
  cases h
  have g:=hy _ _ _ _ h5
  have w:=W72 h3
  exact qdg (st':=qrt r u H (qe .i64 (x.1 + 1),y)) (by simp only [go_sem,seval,qpb,qrt,h1,zj h2,w,zj h4,g] <;> rfl) (qg3 (by show (H y).length≤(H x.2).length; rw [hl,hl]; exact Nat.le_refl _))
 ·cases h
  exact jb (by simp only [go_sem,seval,qpb,qrt,h1,qz2] <;> rfl)
theorem jsr {r:GReg} {u:GUn} {H:σ→qf} {step:σ→qt→Int→Option σ} (hy:∀ x l n y,step x l n=some y→kx (X pr) 1 [aL l,Iv n] (H x)=some (.bool true,H y)) (hl:∀ x,(H x).length=2) {x0:σ} {d} (h:itO (qgz r u step) (0,x0)=some d):qn pr (X pr) 210 [.fn (.yield 1) [] [],.vptr (aU u),.vptr (aR r)] (H x0)=some (.tup [],false,H d.2):=by
 have h1:X pr (.loop qpb) (qrt r u H (0,x0))=some (qz2 r u H d):=zf (zfd r u H step hy hl) (fun d=>by intro hh; cases hh) h
 rw [qk (show pr.fns 210=some c210 from rfl) (by simp)]
 simp only [qrt,qz2] at h1
 simp only [go_sem,seval,c210,h1] <;> rfl
end
def qnp:ACode:=pcB (pcR (pcL (pcR (pcR c75.body))))
def qi1:ACode:=rfA qnp
def qib:ACode:=rfB qnp
theorem jkc:qnp=.rangeFunc (.tmp 9) [10,11] qi1 qib:=rfl
def E75 (r:GReg) (u:GUn):Env:=[(2,.vptr (aR r),false),(3,.vptr (aU u),false),(5,.ptr 0 0,false),(9,.fn (.func 210) [] [.vptr (aU u),.vptr (aR r)],false)]
def G75 (o:Option (List qt)):qf:=[.cells [(sl 5 jg o,o.isSome)]]
def H75 (r:GReg) (u:GUn) (pd:Option jd) (o:Option (List qt)):qf:=[.cells [(sl 5 jg o,o.isSome)],.loop ⟨E75 r u,[10,11],qi1,qib,pd⟩]
def jco (r:GReg) (u:GUn) (l:qt) (n:Int):Env:=(([10,11][1]),Iv n,false)::(([10,11][0]),aL l,false)::E75 r u
def q8f (r:GReg) (u:GUn) (l:qt) (n:Int):Env:=[(2,.vptr (aR r),false),(3,.vptr (aU u),false),(5,.ptr 0 0,false),(6,.vptr (aL l),false)]
theorem za5 {r:GReg} {u:GUn} {l:qt} {n:Int}:qe0 (noOwn (E75 r u)) [10,11] [aL l,Iv n]=some (jco r u l n):=rfl
theorem jgq {r:GReg} {u:GUn} {l:qt} {n:Int} {H:qf}:X pr qi1 ⟨jco r u l n,H⟩=some (.normal,⟨q8f r u l n,H⟩):=by
 simp only [go_sem,seval,qi1,rfA,qnp,pcB,pcL,pcR,c75,jco,E75,List.getElem_cons_zero,List.getElem_cons_succ] <;> rfl
def p75 (o:Option (List qt)) (l:qt) (_:Int):Option (Option (List qt)):=apO o [l]
theorem jch {r:GReg} {u:GUn} {l:qt} {n:Int} {pd:Option jd} {o o':Option (List qt)} (ho:p75 o l n=some o'):∃ e t,X pr qib ⟨q8f r u l n,H75 r u pd o⟩=some (.normal,⟨e,H75 r u pd o'++t⟩):=by
 unfold p75 at ho
 have hs:o'.isSome=true:=by
  cases o' with
  | some _=>rfl
  | none=>cases o <;> simp [apO,apS] at ho
 cases o with
 | none=>
  have ap:=fun (b:Nat) (h:qf) (bb:Bool)=>qv1 (b:=b) (h:=h) (bb:=bb) ho rfl
  simp only [go_sem,seval,qib,rfB,qnp,pcB,pcL,pcR,c75,q8f,H75,ap,Option.isSome_none,hs]
  exact ⟨_,_,rfl⟩
 | some o=>
  have ap:=fun (b t:Nat) (h:qf) (bb:Bool)=>qwp (b:=b) (t:=t) (h:=h) (bb:=bb) ho
  simp only [go_sem,seval,qib,rfB,qnp,pcB,pcL,pcR,c75,q8f,H75,ap,Option.isSome_some,hs]
  exact ⟨_,_,rfl⟩
theorem ja3 {r:GReg} {u:GUn} {pd:Option jd} {o:Option (List qt)}:zn 2 (H75 r u pd o)=true:=by
 simp only [go_sem,seval,H75,zn,qbn,qah,qam,E75] <;> rfl
theorem y75 {r:GReg} {u:GUn} {l:qt} {n:Int} {o o':Option (List qt)} (ho:p75 o l n=some o'):kx (X pr) 1 [aL l,Iv n] (H75 r u none o)=some (.bool true,H75 r u none o'):=by
 have g:∀ o pd t,ze (H75 r u pd o++t) 1=some (.loop ⟨E75 r u,[10,11],qi1,qib,pd⟩):=fun _ _ _=>rfl
 have g0:∀ o pd,ze (H75 r u pd o) 1=some (.loop ⟨E75 r u,[10,11],qi1,qib,pd⟩):=fun _ _=>rfl
 have st:∀ o pd pd' t,(H75 r u pd o++t).set 1 (.loop ⟨E75 r u,[10,11],qi1,qib,pd'⟩)=H75 r u pd' o++t:=fun _ _ _ _=>rfl
 have st0:∀ o pd pd',(H75 r u pd o).set 1 (.loop ⟨E75 r u,[10,11],qi1,qib,pd'⟩)=H75 r u pd' o:=fun _ _ _=>rfl
 have hl:∀ o pd,(H75 r u pd o).length=2:=fun _ _=>rfl
 have ha:∀ o pd v t,Abs.below 2 v=true→jr 2 v (H75 r u pd o++t)=H75 r u pd o:=fun _ _ _ _ hv=>qtz rfl hv ja3
 obtain ⟨e,t,hx⟩:=jch (r:=r) (u:=u) (n:=n) (pd:=some .normal) ho
 unfold kx
 simp only [g0,za5,jgq,Option.isNone_none,cond_true,st0,hl,hx,g,st]
 rw [ha _ _ _ _ rfl]
theorem jjf {r:GReg} {u:GUn} {o:Option (List qt)} {d} (h:itO (qgz r u p75) (0,o)=some d):X pr qnp ⟨E75 r u,G75 o⟩=some (.normal,⟨E75 r u,G75 d.2⟩):=by
 have h1:=jsr (H:=H75 r u none) (fun x l n y hs=>y75 hs) (fun _=>rfl) h
 have hb:∀ o,zn 1 (G75 o)=true:=by
  intro o
  simp only [go_sem,seval,G75,zn,qbn,qah] <;> rfl
 rw [jkc,qxq]
 unfold qb2
 have hn:(zr qi1 && zr qib)=true:=rfl
 have he:qj (E75 r u) (.tmp 9)=some (.fn (.func 210) [] [.vptr (aU u),.vptr (aR r)]):=rfl
 have hl:∀ o,(G75 o).length=1:=fun _=>rfl
 have hap:∀ o,G75 o++[.loop ⟨E75 r u,[10,11],qi1,qib,none⟩]=H75 r u none o:=fun _=>rfl
 have hg:∀ o,ze (H75 r u none o) 1=some (.loop ⟨E75 r u,[10,11],qi1,qib,none⟩):=fun _=>rfl
 have ht:∀ o,(H75 r u none o).take 1=G75 o:=fun _=>rfl
 simp only [hn,cond_true,he,hl,List.nil_append,List.cons_append,hap,h1,hg,ht,hb]
def qkp:ACode:=pcB (pcR (pcL (pcR (pcR c141.body))))
def qgf:ACode:=rfA qkp
def qgg:ACode:=rfB qkp
theorem jcb:qkp=.rangeFunc (.tmp 11) [12,13] qgf qgg:=rfl
def qd6 (r:GReg) (u:GUn):Env:=[(2,.vptr (aR r),false),(3,.vptr (aU u),false),(5,.vptr (.map 0),false),(11,.fn (.func 210) [] [.vptr (aU u),.vptr (aR r)],false)]
def qs7 (o:List (List UInt8 × Int)):qf:=[.map (km o)]
def qc2 (r:GReg) (u:GUn) (pd:Option jd) (o:List (List UInt8 × Int)):qf:=[.map (km o),.loop ⟨qd6 r u,[12,13],qgf,qgg,pd⟩]
def q54 (r:GReg) (u:GUn) (l:qt) (n:Int):Env:=(([12,13][1]),Iv n,false)::(([12,13][0]),aL l,false)::qd6 r u
def q6y (r:GReg) (u:GUn) (l:qt) (n:Int):Env:=[(2,.vptr (aR r),false),(3,.vptr (aU u),false),(5,.vptr (.map 0),false),(6,.vptr (aL l),false),(7,Iv n,false)]
theorem jwx {r:GReg} {u:GUn} {l:qt} {n:Int}:qe0 (noOwn (qd6 r u)) [12,13] [aL l,Iv n]=some (q54 r u l n):=rfl
theorem ja2 {r:GReg} {u:GUn} {l:qt} {n:Int} {H:qf}:X pr qgf ⟨q54 r u l n,H⟩=some (.normal,⟨q6y r u l n,H⟩):=by
 simp only [go_sem,seval,qgf,rfA,qkp,pcB,pcL,pcR,c141,q54,qd6,List.getElem_cons_zero,List.getElem_cons_succ] <;> rfl
def qnl (o:List (List UInt8 × Int)) (l:qt) (n:Int):Option (List (List UInt8 × Int)):=q8d o l.kind (qe .i64 (qe2 o l.kind + n))
theorem q98 {r:GReg} {u:GUn} {l:qt} {n:Int} {pd:Option jd} {o o':List (List UInt8 × Int)} (ho:qnl o l n=some o'):∃ e t,X pr qgg ⟨q6y r u l n,qc2 r u pd o⟩=some (.normal,⟨e,qc2 r u pd o'++t⟩):=by
 unfold qnl at ho
 simp only [go_sem,seval,qgg,rfB,qkp,pcB,pcL,pcR,c141,q6y,qc2,jhz,jp7 ho]
 exact ⟨_,_,rfl⟩
theorem q6g {r:GReg} {u:GUn} {pd:Option jd} {o:List (List UInt8 × Int)}:zn 2 (qc2 r u pd o)=true:=by
 simp only [go_sem,seval,qc2,zn,qbn,qah,qam,qd6] <;> rfl
theorem j9o {r:GReg} {u:GUn} {l:qt} {n:Int} {o o':List (List UInt8 × Int)} (ho:qnl o l n=some o'):kx (X pr) 1 [aL l,Iv n] (qc2 r u none o)=some (.bool true,qc2 r u none o'):=by
 have g:∀ o pd t,ze (qc2 r u pd o++t) 1=some (.loop ⟨qd6 r u,[12,13],qgf,qgg,pd⟩):=fun _ _ _=>rfl
 have g0:∀ o pd,ze (qc2 r u pd o) 1=some (.loop ⟨qd6 r u,[12,13],qgf,qgg,pd⟩):=fun _ _=>rfl
 have st:∀ o pd pd' t,(qc2 r u pd o++t).set 1 (.loop ⟨qd6 r u,[12,13],qgf,qgg,pd'⟩)=qc2 r u pd' o++t:=fun _ _ _ _=>rfl
 have st0:∀ o pd pd',(qc2 r u pd o).set 1 (.loop ⟨qd6 r u,[12,13],qgf,qgg,pd'⟩)=qc2 r u pd' o:=fun _ _ _=>rfl
 have hl:∀ o pd,(qc2 r u pd o).length=2:=fun _ _=>rfl
 have ha:∀ o pd v t,Abs.below 2 v=true→jr 2 v (qc2 r u pd o++t)=qc2 r u pd o:=fun _ _ _ _ hv=>qtz rfl hv q6g
 obtain ⟨e,t,hx⟩:=q98 (r:=r) (u:=u) (n:=n) (pd:=some .normal) ho
 unfold kx
 simp only [g0,jwx,ja2,Option.isNone_none,cond_true,st0,hl,hx,g,st]
 rw [ha _ _ _ _ rfl]
theorem jd7 {r:GReg} {u:GUn} {o:List (List UInt8 × Int)} {d} (h:itO (qgz r u qnl) (0,o)=some d):X pr qkp ⟨qd6 r u,qs7 o⟩=some (.normal,⟨qd6 r u,qs7 d.2⟩):=by
 have h1:=jsr (H:=qc2 r u none) (fun x l n y hs=>j9o hs) (fun _=>rfl) h
 have hb:∀ o,zn 1 (qs7 o)=true:=by
  intro o
  simp only [go_sem,seval,qs7,zn,qbn,qah] <;> rfl
 rw [jcb,qxq]
 unfold qb2
 have hn:(zr qgf && zr qgg)=true:=rfl
 have he:qj (qd6 r u) (.tmp 11)=some (.fn (.func 210) [] [.vptr (aU u),.vptr (aR r)]):=rfl
 have hl:∀ o,(qs7 o).length=1:=fun _=>rfl
 have hap:∀ o,qs7 o++[.loop ⟨qd6 r u,[12,13],qgf,qgg,none⟩]=qc2 r u none o:=fun _=>rfl
 have hg:∀ o,ze (qc2 r u none o) 1=some (.loop ⟨qd6 r u,[12,13],qgf,qgg,none⟩):=fun _=>rfl
 have ht:∀ o,(qc2 r u none o).take 1=qs7 o:=fun _=>rfl
 simp only [hn,cond_true,he,hl,List.nil_append,List.cons_append,hap,h1,hg,ht,hb]
end Go.Z
namespace Go.Z
open Go Go.Abs Go.W
theorem joo {hp:qf} {r:GReg} {u:GUn}:qn pr (X pr) 139 [aR r,aU u] hp=some (.fn (.func 210) [] [.vptr (aU u),.vptr (aR r)],false,hp):=by
 rw [qk (show pr.fns 139=some c139 from rfl) (by simp)]
 simp only [go_sem,seval,c139] <;> rfl
noncomputable def f141 (r:GReg) (u:GUn):Option Bool:=
 qa (itO (qgz r u qnl) (0,[])) fun d=>qa (f134 r u) fun doc=>qa (qvr doc.needs d.2) fun b=>some (!b)
def jaq:ACode:=pcL c141.body
def q9g:ACode:=pcL (pcR c141.body)
def q9b:ACode:=pcL (pcL (pcR (pcR c141.body)))
def jbl:ACode:=pcR (pcR (pcR c141.body))
theorem zco {r:GReg} {u:GUn} {q} (h:f141 r u=some q):qc pr (X pr) 141 [aR r,aU u]=some (.bool q,false):=by
 unfold f141 at h
 obtain ⟨d,h1,h⟩:=qb h
 obtain ⟨doc,h2,h⟩:=qb h
 obtain ⟨b,h3,h⟩:=qb h
 cases h
 have hx:X pr qkp ⟨qd6 r u,[.map []]⟩=some (.normal,⟨qd6 r u,[.map (km d.2)]⟩):=jd7 h1
 have w1:=joo (hp:=[.map []]) (r:=r) (u:=u)
 have ha:jr 1 (.fn (.func 210) [] [.vptr (aU u),.vptr (aR r)]) ([.map []]:qf)=[.map []]:=ya rfl
 have w2:qc pr (X pr) 134 [aR r,aU u]=some (aD doc,false):=q8t h2
 have w3:=jwk h3
 have hb:jr 1 (.bool b) ([.map (km d.2)]:qf)=[.map (km d.2)]:=ya rfl
 have this:∃ hh,qn pr (X pr) 141 [aR r,aU u] []=some (.bool (!b),false,hh):=by
  rw [qk (show pr.fns 141=some ⟨27,.seq jaq (.seq q9g (.seq (.seq q9b (.block 0 qkp)) jbl)),[.tmp 4]⟩ from rfl) (by simp)]
  simp only [qd6] at hx
  simp only [go_sem,seval,jaq,q9g,q9b,jbl,pcL,pcR,c141,w1,ha,w2,w3,hb,hx]
  exact ⟨_,rfl⟩
 obtain ⟨hh,this⟩:=this
 exact zu rfl this (by first | rfl | simp only [go_sem,seval]) (by first | rfl | simp only [go_sem,seval])
noncomputable def f75 (r:GReg) (u:GUn):Option Int:=
 qa (itO (qgz r u p75) (0,none)) fun d=>qa (f53 u.shipped 21) fun e1=>qa (f140 r u) fun lt=>qa (f53 (!decide (u.version=lt)) 32) fun e2=>qa (f141 r u) fun c=>qa (f53 (!c) 20) fun e3=>
 qa (f74 r u) fun m=>qa (f53 (decide (0 < ((m.1.getD []).length:Int))) 31) fun e4=>qa (f142 d.2) fun hd=>qa (f53 (decide (0 < ((hd.1.getD []).length:Int))) 34) fun e5=>f51 (some [e1,e2,e3,e4,e5])
def jis:ACode:=pcL c75.body
def jiq:ACode:=pcL (pcR c75.body)
def jix:ACode:=pcL (pcL (pcR (pcR c75.body)))
def jh8:ACode:=pcR (pcR (pcR c75.body))
theorem W75 {r:GReg} {u:GUn} {q} (h:f75 r u=some q):qc pr (X pr) 75 [aR r,aU u]=some (Iv q,false):=by
 unfold f75 at h
 obtain ⟨d,h1,h⟩:=qb h
 obtain ⟨e1,g1,h⟩:=qb h
 obtain ⟨lt,h2,h⟩:=qb h
 obtain ⟨e2,g2,h⟩:=qb h
 obtain ⟨c,h3,h⟩:=qb h
 obtain ⟨e3,g3,h⟩:=qb h
 obtain ⟨m,h4,h⟩:=qb h
 obtain ⟨e4,g4,h⟩:=qb h
 obtain ⟨hd,h5,h⟩:=qb h
 obtain ⟨e5,g5,h⟩:=qb h
 have hx:X pr qnp ⟨E75 r u,[.cells [(Nl,false)]]⟩=some (.normal,⟨E75 r u,[.cells [(sl 5 jg d.2,d.2.isSome)]]⟩):=jjf h1
 have w1:=joo (hp:=[.cells [(Nl,false)]]) (r:=r) (u:=u)
 have ha:jr 1 (.fn (.func 210) [] [.vptr (aU u),.vptr (aR r)]) ([.cells [(Nl,false)]]:qf)=[.cells [(Nl,false)]]:=ya rfl
 have k1:=W53 g1
 have w2:qc pr (X pr) 140 [aR r,aU u]=some (Iv lt,false):=jns h2
 have k2:=W53 g2
 have w3:=zco h3
 have k3:=W53 g3
 have w4:qc pr (X pr) 74 [aR r,aU u]=some (sl 1 ye m.1,m.2):=W74 h4
 have k4:=W53 g4
 have w5:=j9b h5
 have k5:=W53 g5
 have k6:qc pr (X pr) 51 [.list false 1 [Iv e1,Iv e2,Iv e3,Iv e4,Iv e5]]=some (Iv q,false):=W51 h
 have this:∃ hh,qn pr (X pr) 75 [aR r,aU u] []=some (Iv q,false,hh):=by
  rw [qk (show pr.fns 75=some ⟨44,.seq jis (.seq jiq (.seq (.seq jix (.block 0 qnp)) jh8)),[.tmp 4]⟩ from rfl) (by simp)]
  simp only [E75] at hx
  simp only [go_sem,seval,jis,jiq,jix,jh8,pcL,pcR,c75,w1,ha,k1,w2,k2,w3,k3,w4,k4,w5,k5,k6,hx]
  exact ⟨_,rfl⟩
 obtain ⟨hh,this⟩:=this
 exact zu rfl this (by first | rfl | simp only [go_sem,seval]) (by first | rfl | simp only [go_sem,seval])
end Go.Z
