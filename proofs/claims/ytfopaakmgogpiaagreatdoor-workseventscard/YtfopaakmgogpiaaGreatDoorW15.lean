/- Chapter 10. -/
import Derived.Test.YtfopaakmgogpiaaGreatDoorW6
import Derived.Test.YtfopaakmgogpiaaGreatDoorCA
import Derived.Test.YtfopaakmgogpiaaGreatDoorW4
import Derived.Test.YtfopaakmgogpiaaGreatDoorAbsL
set_option linter.unusedVariables false
set_option linter.unusedSimpArgs false
set_option maxRecDepth 100000
set_option maxHeartbeats 4000000
noncomputable section
namespace Go.Z
open Go Go.Abs Go.W
def q8p (a0:qm)(e0:List (List UInt8×Int)):Option Bool:=
 some (decide ((qhd e0 a0.k)<a0.n))
theorem jwl {a0:qm}{e0:List (List UInt8×Int)}{r}(h:q8p a0 e0=some r):zj pr (X pr) 211 [.agg [.str a0.k,Iv a0.n],.vptr (.map 0)] [.map (qbl e0)]=some (.bool r,false,[.map (qbl e0)]):=by
 unfold q8p at h
 have hr:decide ((qhd e0 a0.k)<a0.n)=r:=Option.some.inj h
 subst hr
 rw[zc (show pr.fns 211=some c211 from rfl) (by simp)]
 simp only[go_sem,seval,c211,jgm]<;>rfl
def quc (a0:Option (List qm))(e0:List (List UInt8×Int))(s0:Int):Option (Int⊕(Int⊕Int)):=
 cond (decide (s0<((a0.getD []).length:Int)))
  (jy (zz (a0.getD []) s0) fun v14=>
  jy (q8p v14 e0) fun v16=>
  cond v16
   (some (.inr (.inl s0)))
   (some (.inl (j8 .i64 (s0+1)))))
  (some (.inr (.inr s0)))
def qhw (a0:Option (List qm))(e0:List (List UInt8×Int))(s0:Int):qg:=⟨[(0,sl 2 vsi a0,false),(1,.fn (.func 211) [] [.vptr (.map 0)],false),(7,Lv a0,false),(8,Iv s0,false)],[.map (qbl e0)]⟩
def qju (a0:Option (List qm))(e0:List (List UInt8×Int)):Int⊕Int→qn×qg
 | .inl d=>(.ret,⟨[(4,Iv d,false)],[.map (qbl e0)]⟩)
 | .inr d=>(.exit 0,⟨[(0,sl 2 vsi a0,false),(1,.fn (.func 211) [] [.vptr (.map 0)],false),(7,Lv a0,false),(8,Iv d,false),(9,.bool false,false)],[.map (qbl e0)]⟩)
theorem jg3 (a0:Option (List qm))(e0:List (List UInt8×Int))(s0:Int)(r)(h:quc a0 e0 s0=some r):y6 pr qb6 (qhw a0 e0) (qju a0 e0) s0 r:=by
 unfold quc at h
 rcases jx h with⟨h13,h⟩|⟨h13,h⟩
 ·obtain⟨v14,h15,h⟩:=jw h
  obtain⟨v16,h17,h⟩:=jw h
  have wh17:zj pr (X pr) 211 [.agg [.str v14.k,Iv v14.n],.vptr (.map 0)] [.map (qbl e0)]=some (.bool v16,false,[.map (qbl e0)]):=jwl h17
  rcases jx h with⟨h18,h⟩|⟨h18,h⟩
  ·cases h
   exact zd (by simp only[go_sem,seval,qb6,qhw,h13,jz h15,wh17,h18,qju]<;>rfl)
  cases h
  exact zq (by simp only[go_sem,seval,qb6,qhw,h13,jz h15,wh17,h18]<;>rfl)
 cases h
 exact zd (by simp only[go_sem,seval,qb6,qhw,h13,qju]<;>rfl)
theorem q6o (a0:Option (List qm))(e0:List (List UInt8×Int)){s0:Int}{d}(h:itO (quc a0 e0) s0=some d):X pr (.loop qb6) (qhw a0 e0 s0)=some (qju a0 e0 d):=km (jg3 a0 e0) (fun d=>by rcases d with d|d<;>(intro hh;cases hh)) h
def qx4 (a0:Option (List qm))(e0:List (List UInt8×Int)):Option Int:=
 jy (itO (quc a0 e0) 0) fun d19=>match d19 with
  | .inl d21=>
   some d21
  | .inr d22=>
   some (-1)
theorem jv8 {a0:Option (List qm)}{e0:List (List UInt8×Int)}{r}(h:qx4 a0 e0=some r):zj pr (X pr) 235 [sl 2 vsi a0,.fn (.func 211) [] [.vptr (.map 0)]] [.map (qbl e0)]=some (Iv r,false,[.map (qbl e0)]):=by
 unfold qx4 at h
 obtain⟨d19,h20,h⟩:=jw h
 rcases d19 with d21|d22
 ·have wh20:=q6o a0 e0 h20
  dsimp only[qhw,qju]at wh20
  have hr:d21=r:=Option.some.inj h
  subst hr
  rw[zc (show pr.fns 235=some c235 from rfl) (by simp)]
  simp only[go_sem,seval,c235,wh20]<;>rfl
 have wh20:=q6o a0 e0 h20
 dsimp only[qhw,qju]at wh20
 have hr:(-1)=r:=Option.some.inj h
 subst hr
 rw[zc (show pr.fns 235=some c235 from rfl) (by simp)]
 simp only[go_sem,seval,c235,wh20]<;>rfl
def qws (a0:Option (List qm))(e0:List (List UInt8×Int)):Option Bool:=
 jy (qx4 a0 e0) fun v1=>
 some (decide (0≤v1))
theorem jsq {a0:Option (List qm)}{e0:List (List UInt8×Int)}{r}(h:qws a0 e0=some r):zj pr (X pr) 168 [sl 2 vsi a0,.fn (.func 211) [] [.vptr (.map 0)]] [.map (qbl e0)]=some (.bool r,false,[.map (qbl e0)]):=by
 unfold qws at h
 obtain⟨v1,h2,h⟩:=jw h
 have wh2:zj pr (X pr) 235 [sl 2 vsi a0,.fn (.func 211) [] [.vptr (.map 0)]] [.map (qbl e0)]=some (Iv v1,false,[.map (qbl e0)]):=jv8 h2
 have hr:decide (0≤v1)=r:=Option.some.inj h
 subst hr
 rw[zc (show pr.fns 168=some c168 from rfl) (by simp)]
 simp only[go_sem,seval,c168,wh2]<;>rfl
def f143 (a0:qj):Option Bool:=
 some a0.held
theorem j69 (hp:zb){a0:qj}{r}(h:f143 a0=some r):zj pr (X pr) 143 [.agg [.str a0.name,.str a0.kind,Iv a0.count,Iv a0.left,.bool a0.held]] hp=some (.bool r,false,hp):=by
 unfold f143 at h
 have hr:a0.held=r:=Option.some.inj h
 subst hr
 rw[zc (show pr.fns 143=some c143 from rfl) (by simp)]
 simp only[go_sem,seval,c143]<;>rfl
def qr2 (a0:Option (List qj))(s0:(Option (List qj))×Int×Bool):Option (((Option (List qj))×Int×Bool)⊕(((Option (List qj))×Bool×Int))):=
 cond (decide (s0.2.1<((a0.getD []).length:Int)))
  (jy (zz (a0.getD []) s0.2.1) fun v20=>
  jy (f143 v20) fun v22=>
  cond v22
   (cond s0.2.2
    (jy (apO s0.1 [v20]) fun v26=>
    some (.inl (v26,j8 .i64 (s0.2.1+1),true)))
    (cond s0.1.isNone
     (jy (apO s0.1 [v20]) fun v29=>
     some (.inl (v29,j8 .i64 (s0.2.1+1),true)))
     (none)))
   (some (.inl (s0.1,j8 .i64 (s0.2.1+1),s0.2.2))))
  (some (.inr (s0.1,s0.2.2,s0.2.1)))
def qi8 (a0:Option (List qj))(s0:(Option (List qj))×Int×Bool):qg:=⟨[(1,.fn (.func 143) [] [],false),(5,sl 5 zg s0.1,s0.2.2),(8,sl 5 zg a0,false),(9,Lv a0,false),(10,Iv s0.2.1,false)],[]⟩
def qto (a0:Option (List qj))(d:((Option (List qj))×Bool×Int)):qn×qg:=(.exit 0,⟨[(1,.fn (.func 143) [] [],false),(5,sl 5 zg d.1,d.2.1),(8,sl 5 zg a0,false),(9,Lv a0,false),(10,Iv d.2.2,false),(11,.bool false,false)],[]⟩)
theorem jjy (a0:Option (List qj))(s0:(Option (List qj))×Int×Bool)(r)(h:qr2 a0 s0=some r):y6 pr qm0 (qi8 a0) (qto a0) s0 r:=by
 unfold qr2 at h
 rcases jx h with⟨h19,h⟩|⟨h19,h⟩
 ·obtain⟨v20,h21,h⟩:=jw h
  obtain⟨v22,h23,h⟩:=jw h
  have wh23:zj pr (X pr) 143 [.agg [.str v20.name,.str v20.kind,Iv v20.count,Iv v20.left,.bool v20.held]] []=some (.bool v22,false,[]):=j69 [] h23
  rcases jx h with⟨h24,h⟩|⟨h24,h⟩
  ·rcases jx h with⟨h25,h⟩|⟨h25,h⟩
   ·obtain⟨v26,h27,h⟩:=jw h
    cases h
    exact zq (by simp only[go_sem,seval,qm0,qi8,h19,jz h21,wh23,h24,h25,qih h27]<;>rfl)
   rcases jx h with⟨h28,h⟩|⟨h28,h⟩
   ·obtain⟨v29,h30,h⟩:=jw h
    cases h
    exact zq (by simp only[go_sem,seval,qm0,qi8,h19,jz h21,wh23,h24,h25,h28,qlh h30 h28]<;>rfl)
   cases h
  cases h
  exact zq (by simp only[go_sem,seval,qm0,qi8,h19,jz h21,wh23,h24]<;>rfl)
 cases h
 exact zd (by simp only[go_sem,seval,qm0,qi8,h19,qto]<;>rfl)
theorem jmd (a0:Option (List qj)){s0:(Option (List qj))×Int×Bool}{d}(h:itO (qr2 a0) s0=some d):X pr (.loop qm0) (qi8 a0 s0)=some (qto a0 d):=km (jjy a0) (fun d hh=>by cases hh) h
def f142 (a0:Option (List qj)):Option ((Option (List qj))×Bool):=
 jy (itO (qr2 a0) (none,0,false)) fun d31=>
 some (d31.1,d31.2.1)
theorem j5r {a0:Option (List qj)}{r}(h:f142 a0=some r):j6 pr (X pr) 142 [sl 5 zg a0,.fn (.func 143) [] []]=some (sl 5 zg r.1,r.2):=by
 unfold f142 at h
 obtain⟨d31,h32,h⟩:=jw h
 have wh32:=jmd a0 h32
 dsimp only[qi8,qto,qd8]at wh32
 obtain rfl:=oi h
 refine ki c142 ?_
 simp only[go_sem,seval,c142,wh32]
 exact⟨_,rfl⟩
end Go.Z
namespace Go.Z
open Go Go.Abs Go.W
def pcL:qh→qh
 | .seq a _=>a
 |x=>x
def pcR:qh→qh
 | .seq _ b=>b
 |x=>x
def pcB:qh→qh
 | .block _ b=>b
 |x=>x
def rfA:qh→qh
 | .rangeFunc _ _ a _=>a
 |x=>x
def rfB:qh→qh
 | .rangeFunc _ _ _ b=>b
 |x=>x
theorem qw1 {n:Nat}{v:qa}{h t:zb}(hn:h.length=n)(hv:Abs.below n v=true)(hb:ky n h=true):yt n v (h++t)=h:=by
 have ht:(h++t).take n=h:=by rw[←hn,List.take_left'];rfl
 unfold yt
 rw[ht,hv,hb]
 cases hc:Nat.ble (h++t).length n with
 |true=>
  have:=Nat.le_of_ble_eq_true hc
  rw[List.length_append,hn]at this
  have:t=[]:=List.eq_nil_of_length_eq_zero (by omega)
  subst this;simp
 |false=>rfl
theorem qao {n:Nat}{v:qa}{h:zb}(hn:h.length=n):yt n v h=h:=by
 unfold yt
 rw[Nat.ble_eq_true_of_le (by omega)];rfl
section
variable {σ:Type}(r:qc)(u:qe)(H:σ→zb)(step:σ→qj→Int→Option σ)
def qjv (x:Int×σ):Option ((Int×σ)⊕(Int×σ)):=
 cond (decide (x.1<((u.uses.getD []).length:Int)))
  (jy (zz (u.uses.getD []) x.1) fun s=>jy (f72 r s.k) fun v=>jy (zz (r.lots.getD []) v) fun l=>jy (step x.2 l s.n) fun y=>some (.inl (j8 .i64 (x.1+1),y)))
  (some (.inr x))
def qt5 (x:Int×σ):qg:=⟨[(0,.fn (.yield 1) [] [],false),(2,.vptr (.agg [Iv r.day,sl 5 zg r.lots,sl 4 za r.products,sl 8 vun r.units]),false),(7,sl 2 vsi u.uses,false),(8,Lv u.uses,false),(9,Iv x.1,false)],H x.2⟩
def q1s (x:Int×σ):qn×qg:=(.exit 0,⟨[(0,.fn (.yield 1) [] [],false),(2,.vptr (.agg [Iv r.day,sl 5 zg r.lots,sl 4 za r.products,sl 8 vun r.units]),false),(7,sl 2 vsi u.uses,false),(8,Lv u.uses,false),(9,Iv x.1,false),(10,.bool false,false)],H x.2⟩)
theorem j95 (hy:∀x l n y,step x l n=some y→qbx (X pr) 1 [.agg [.str l.name,.str l.kind,Iv l.count,Iv l.left,.bool l.held],Iv n] (H x)=some (.bool true,H y))(hl:∀x,(H x).length=2)(x:Int×σ)(q)(h:qjv r u step x=some q):y6 pr qsn (qt5 r u H) (q1s r u H) x q:=by
 unfold qjv at h
 rcases jx h with⟨h1,h⟩|⟨h1,h⟩
 ·obtain⟨s,h2,h⟩:=jw h
  obtain⟨v,h3,h⟩:=jw h
  obtain⟨l,h4,h⟩:=jw h
  obtain⟨y,h5,h⟩:=jw h
  cases h
  have g:=hy _ _ _ _ h5
  have w:=W72 h3
  exact qfr (st':=qt5 r u H (j8 .i64 (x.1+1),y)) (by simp only[go_sem,seval,qsn,qt5,h1,jz h2,w,jz h4,g]<;>rfl) (qjf (by show(H y).length≤(H x.2).length;rw[hl,hl];exact Nat.le_refl _))
 cases h
 exact zd (by simp only[go_sem,seval,qsn,qt5,h1,q1s]<;>rfl)
theorem jka {r:qc}{u:qe}{H:σ→zb}{step:σ→qj→Int→Option σ}(hy:∀x l n y,step x l n=some y→qbx (X pr) 1 [.agg [.str l.name,.str l.kind,Iv l.count,Iv l.left,.bool l.held],Iv n] (H x)=some (.bool true,H y))(hl:∀x,(H x).length=2){x0:σ}{d}(h:itO (qjv r u step) (0,x0)=some d):zj pr (X pr) 210 [.fn (.yield 1) [] [],.vptr (.agg [.str u.name,.str u.product,Iv u.version,sl 2 vsi u.uses,sl 3 zp u.results,.str u.partner,.bool u.shipped,Iv u.complaints]),.vptr (.agg [Iv r.day,sl 5 zg r.lots,sl 4 za r.products,sl 8 vun r.units])] (H x0)=some (.tup [],false,H d.2):=by
 have h1:X pr (.loop qsn) (qt5 r u H (0,x0))=some (q1s r u H d):=km (j95 r u H step hy hl) (fun d=>by intro hh;cases hh) h
 rw[zc (show pr.fns 210=some c210 from rfl) (by simp)]
 simp only[qt5,q1s]at h1
 simp only[go_sem,seval,c210,h1]<;>rfl
end
def qqf:qh:=pcB (pcR (pcL (pcR (pcR c75.body))))
def qmi:qh:=rfA qqf
def qk4:qh:=rfB qqf
theorem jho:qqf=.rangeFunc (.tmp 9) [10,11] qmi qk4:=rfl
def E75 (r:qc)(u:qe):Env:=[(2,.vptr (.agg [Iv r.day,sl 5 zg r.lots,sl 4 za r.products,sl 8 vun r.units]),false),(3,.vptr (.agg [.str u.name,.str u.product,Iv u.version,sl 2 vsi u.uses,sl 3 zp u.results,.str u.partner,.bool u.shipped,Iv u.complaints]),false),(5,.ptr 0 0,false),(9,.fn (.func 210) [] [.vptr (.agg [.str u.name,.str u.product,Iv u.version,sl 2 vsi u.uses,sl 3 zp u.results,.str u.partner,.bool u.shipped,Iv u.complaints]),.vptr (.agg [Iv r.day,sl 5 zg r.lots,sl 4 za r.products,sl 8 vun r.units])],false)]
def G75 (o:Option (List qj)):zb:=[.cells [(sl 5 zg o,o.isSome)]]
def H75 (r:qc)(u:qe)(pd:Option qn)(o:Option (List qj)):zb:=[.cells [(sl 5 zg o,o.isSome)],.loop ⟨E75 r u,[10,11],qmi,qk4,pd⟩]
def jdl (r:qc)(u:qe)(l:qj)(n:Int):Env:=(([10,11][1]),Iv n,false)::(([10,11][0]),.agg [.str l.name,.str l.kind,Iv l.count,Iv l.left,.bool l.held],false)::E75 r u
def q60 (r:qc)(u:qe)(l:qj)(n:Int):Env:=[(2,.vptr (.agg [Iv r.day,sl 5 zg r.lots,sl 4 za r.products,sl 8 vun r.units]),false),(3,.vptr (.agg [.str u.name,.str u.product,Iv u.version,sl 2 vsi u.uses,sl 3 zp u.results,.str u.partner,.bool u.shipped,Iv u.complaints]),false),(5,.ptr 0 0,false),(6,.vptr (.agg [.str l.name,.str l.kind,Iv l.count,Iv l.left,.bool l.held]),false)]
theorem j32 {r:qc}{u:qe}{l:qj}{n:Int}:qg6 (noOwn (E75 r u)) [10,11] [.agg [.str l.name,.str l.kind,Iv l.count,Iv l.left,.bool l.held],Iv n]=some (jdl r u l n):=rfl
theorem jdk {r:qc}{u:qe}{l:qj}{n:Int}{H:zb}:X pr qmi ⟨jdl r u l n,H⟩=some (.normal,⟨q60 r u l n,H⟩):=by
 simp only[go_sem,seval,qmi,rfA,qqf,pcB,pcL,pcR,c75,jdl,E75,List.getElem_cons_zero,List.getElem_cons_succ]<;>rfl
def p75 (o:Option (List qj))(l:qj)(_:Int):Option (Option (List qj)):=apO o [l]
theorem jca {r:qc}{u:qe}{l:qj}{n:Int}{pd:Option qn}{o o':Option (List qj)}(ho:p75 o l n=some o'):∃e t,X pr qk4 ⟨q60 r u l n,H75 r u pd o⟩=some (.normal,⟨e,H75 r u pd o'++t⟩):=by
 unfold p75 at ho
 have hs:o'.isSome=true:=by
  cases o' with
  |some _=>rfl
  |none=>cases o<;>simp[apO,apS]at ho
 cases o with
 |none=>
  have ap:=fun(b:Nat) (h:zb) (bb:Bool)=>qlh (b:=b) (h:=h) (bb:=bb) ho rfl
  simp only[go_sem,seval,qk4,rfB,qqf,pcB,pcL,pcR,c75,q60,H75,ap,Option.isSome_none,hs]
  exact⟨_,_,rfl⟩
 |some o=>
  have ap:=fun(b t:Nat) (h:zb) (bb:Bool)=>qih (b:=b) (t:=t) (h:=h) (bb:=bb) ho
  simp only[go_sem,seval,qk4,rfB,qqf,pcB,pcL,pcR,c75,q60,H75,ap,Option.isSome_some,hs]
  exact⟨_,_,rfl⟩
theorem jal {r:qc}{u:qe}{pd:Option qn}{o:Option (List qj)}:ky 2 (H75 r u pd o)=true:=by
 simp only[go_sem,seval,H75,ky,qdl,qcc,qce,E75]<;>rfl
theorem y75 {r:qc}{u:qe}{l:qj}{n:Int}{o o':Option (List qj)}(ho:p75 o l n=some o'):qbx (X pr) 1 [.agg [.str l.name,.str l.kind,Iv l.count,Iv l.left,.bool l.held],Iv n] (H75 r u none o)=some (.bool true,H75 r u none o'):=by
 have g:∀o pd t,kl (H75 r u pd o++t) 1=some (.loop ⟨E75 r u,[10,11],qmi,qk4,pd⟩):=fun _ _ _=>rfl
 have g0:∀o pd,kl (H75 r u pd o) 1=some (.loop ⟨E75 r u,[10,11],qmi,qk4,pd⟩):=fun _ _=>rfl
 have st:∀o pd pd' t,(H75 r u pd o++t).set 1 (.loop ⟨E75 r u,[10,11],qmi,qk4,pd'⟩)=H75 r u pd' o++t:=fun _ _ _ _=>rfl
 have st0:∀o pd pd',(H75 r u pd o).set 1 (.loop ⟨E75 r u,[10,11],qmi,qk4,pd'⟩)=H75 r u pd' o:=fun _ _ _=>rfl
 have hl:∀o pd,(H75 r u pd o).length=2:=fun _ _=>rfl
 have ha:∀o pd v t,Abs.below 2 v=true→yt 2 v (H75 r u pd o++t)=H75 r u pd o:=fun _ _ _ _ hv=>qw1 rfl hv jal
 obtain⟨e,t,hx⟩:=jca (r:=r) (u:=u) (n:=n) (pd:=some .normal) ho
 unfold qbx
 simp only[g0,j32,jdk,Option.isNone_none,cT,st0,hl,hx,g,st]
 rw[ha _ _ _ _ rfl]
theorem jij {r:qc}{u:qe}{o:Option (List qj)}{d}(h:itO (qjv r u p75) (0,o)=some d):X pr qqf ⟨E75 r u,G75 o⟩=some (.normal,⟨E75 r u,G75 d.2⟩):=by
 have h1:=jka (H:=H75 r u none) (fun x l n y hs=>y75 hs) (fun _=>rfl) h
 have hb:∀o,ky 1 (G75 o)=true:=by
  intro o
  simp only[go_sem,seval,G75,ky,qdl,qcc]<;>rfl
 rw[jho,qyz]
 unfold qd5
 have hn:(qad qmi&&qad qk4)=true:=rfl
 have he:zh (E75 r u) (.tmp 9)=some (.fn (.func 210) [] [.vptr (.agg [.str u.name,.str u.product,Iv u.version,sl 2 vsi u.uses,sl 3 zp u.results,.str u.partner,.bool u.shipped,Iv u.complaints]),.vptr (.agg [Iv r.day,sl 5 zg r.lots,sl 4 za r.products,sl 8 vun r.units])]):=rfl
 have hl:∀o,(G75 o).length=1:=fun _=>rfl
 have hap:∀o,G75 o++[.loop ⟨E75 r u,[10,11],qmi,qk4,none⟩]=H75 r u none o:=fun _=>rfl
 have hg:∀o,kl (H75 r u none o) 1=some (.loop ⟨E75 r u,[10,11],qmi,qk4,none⟩):=fun _=>rfl
 have ht:∀o,(H75 r u none o).take 1=G75 o:=fun _=>rfl
 simp only[hn,cT,he,hl,List.nil_append,List.cons_append,hap,h1,hg,ht,hb]
def qnx:qh:=pcB (pcR (pcL (pcR (pcR c141.body))))
def qil:qh:=rfA qnx
def qit:qh:=rfB qnx
theorem jet:qnx=.rangeFunc (.tmp 11) [12,13] qil qit:=rfl
def qgg (r:qc)(u:qe):Env:=[(2,.vptr (.agg [Iv r.day,sl 5 zg r.lots,sl 4 za r.products,sl 8 vun r.units]),false),(3,.vptr (.agg [.str u.name,.str u.product,Iv u.version,sl 2 vsi u.uses,sl 3 zp u.results,.str u.partner,.bool u.shipped,Iv u.complaints]),false),(5,.vptr (.map 0),false),(11,.fn (.func 210) [] [.vptr (.agg [.str u.name,.str u.product,Iv u.version,sl 2 vsi u.uses,sl 3 zp u.results,.str u.partner,.bool u.shipped,Iv u.complaints]),.vptr (.agg [Iv r.day,sl 5 zg r.lots,sl 4 za r.products,sl 8 vun r.units])],false)]
def qvq (o:List (List UInt8×Int)):zb:=[.map (qbl o)]
def qfj (r:qc)(u:qe)(pd:Option qn)(o:List (List UInt8×Int)):zb:=[.map (qbl o),.loop ⟨qgg r u,[12,13],qil,qit,pd⟩]
def q88 (r:qc)(u:qe)(l:qj)(n:Int):Env:=(([12,13][1]),Iv n,false)::(([12,13][0]),.agg [.str l.name,.str l.kind,Iv l.count,Iv l.left,.bool l.held],false)::qgg r u
def q9g (r:qc)(u:qe)(l:qj)(n:Int):Env:=[(2,.vptr (.agg [Iv r.day,sl 5 zg r.lots,sl 4 za r.products,sl 8 vun r.units]),false),(3,.vptr (.agg [.str u.name,.str u.product,Iv u.version,sl 2 vsi u.uses,sl 3 zp u.results,.str u.partner,.bool u.shipped,Iv u.complaints]),false),(5,.vptr (.map 0),false),(6,.vptr (.agg [.str l.name,.str l.kind,Iv l.count,Iv l.left,.bool l.held]),false),(7,Iv n,false)]
theorem jqk {r:qc}{u:qe}{l:qj}{n:Int}:qg6 (noOwn (qgg r u)) [12,13] [.agg [.str l.name,.str l.kind,Iv l.count,Iv l.left,.bool l.held],Iv n]=some (q88 r u l n):=rfl
theorem jat {r:qc}{u:qe}{l:qj}{n:Int}{H:zb}:X pr qil ⟨q88 r u l n,H⟩=some (.normal,⟨q9g r u l n,H⟩):=by
 simp only[go_sem,seval,qil,rfA,qnx,pcB,pcL,pcR,c141,q88,qgg,List.getElem_cons_zero,List.getElem_cons_succ]<;>rfl
def qqn (o:List (List UInt8×Int))(l:qj)(n:Int):Option (List (List UInt8×Int)):=q9n o l.kind (j8 .i64 (qhd o l.kind+n))
theorem jbt {r:qc}{u:qe}{l:qj}{n:Int}{pd:Option qn}{o o':List (List UInt8×Int)}(ho:qqn o l n=some o'):∃e t,X pr qit ⟨q9g r u l n,qfj r u pd o⟩=some (.normal,⟨e,qfj r u pd o'++t⟩):=by
 unfold qqn at ho
 simp only[go_sem,seval,qit,rfB,qnx,pcB,pcL,pcR,c141,q9g,qfj,jgm,jkd ho]
 exact⟨_,_,rfl⟩
theorem q8k {r:qc}{u:qe}{pd:Option qn}{o:List (List UInt8×Int)}:ky 2 (qfj r u pd o)=true:=by
 simp only[go_sem,seval,qfj,ky,qdl,qcc,qce,qgg]<;>rfl
theorem zaf {r:qc}{u:qe}{l:qj}{n:Int}{o o':List (List UInt8×Int)}(ho:qqn o l n=some o'):qbx (X pr) 1 [.agg [.str l.name,.str l.kind,Iv l.count,Iv l.left,.bool l.held],Iv n] (qfj r u none o)=some (.bool true,qfj r u none o'):=by
 have g:∀o pd t,kl (qfj r u pd o++t) 1=some (.loop ⟨qgg r u,[12,13],qil,qit,pd⟩):=fun _ _ _=>rfl
 have g0:∀o pd,kl (qfj r u pd o) 1=some (.loop ⟨qgg r u,[12,13],qil,qit,pd⟩):=fun _ _=>rfl
 have st:∀o pd pd' t,(qfj r u pd o++t).set 1 (.loop ⟨qgg r u,[12,13],qil,qit,pd'⟩)=qfj r u pd' o++t:=fun _ _ _ _=>rfl
 have st0:∀o pd pd',(qfj r u pd o).set 1 (.loop ⟨qgg r u,[12,13],qil,qit,pd'⟩)=qfj r u pd' o:=fun _ _ _=>rfl
 have hl:∀o pd,(qfj r u pd o).length=2:=fun _ _=>rfl
 have ha:∀o pd v t,Abs.below 2 v=true→yt 2 v (qfj r u pd o++t)=qfj r u pd o:=fun _ _ _ _ hv=>qw1 rfl hv q8k
 obtain⟨e,t,hx⟩:=jbt (r:=r) (u:=u) (n:=n) (pd:=some .normal) ho
 unfold qbx
 simp only[g0,jqk,jat,Option.isNone_none,cT,st0,hl,hx,g,st]
 rw[ha _ _ _ _ rfl]
theorem jdm {r:qc}{u:qe}{o:List (List UInt8×Int)}{d}(h:itO (qjv r u qqn) (0,o)=some d):X pr qnx ⟨qgg r u,qvq o⟩=some (.normal,⟨qgg r u,qvq d.2⟩):=by
 have h1:=jka (H:=qfj r u none) (fun x l n y hs=>zaf hs) (fun _=>rfl) h
 have hb:∀o,ky 1 (qvq o)=true:=by
  intro o
  simp only[go_sem,seval,qvq,ky,qdl,qcc]<;>rfl
 rw[jet,qyz]
 unfold qd5
 have hn:(qad qil&&qad qit)=true:=rfl
 have he:zh (qgg r u) (.tmp 11)=some (.fn (.func 210) [] [.vptr (.agg [.str u.name,.str u.product,Iv u.version,sl 2 vsi u.uses,sl 3 zp u.results,.str u.partner,.bool u.shipped,Iv u.complaints]),.vptr (.agg [Iv r.day,sl 5 zg r.lots,sl 4 za r.products,sl 8 vun r.units])]):=rfl
 have hl:∀o,(qvq o).length=1:=fun _=>rfl
 have hap:∀o,qvq o++[.loop ⟨qgg r u,[12,13],qil,qit,none⟩]=qfj r u none o:=fun _=>rfl
 have hg:∀o,kl (qfj r u none o) 1=some (.loop ⟨qgg r u,[12,13],qil,qit,none⟩):=fun _=>rfl
 have ht:∀o,(qfj r u none o).take 1=qvq o:=fun _=>rfl
 simp only[hn,cT,he,hl,List.nil_append,List.cons_append,hap,h1,hg,ht,hb]
end Go.Z
namespace Go.Z
open Go Go.Abs Go.W
theorem jlj {hp:zb}{r:qc}{u:qe}:zj pr (X pr) 139 [.agg [Iv r.day,sl 5 zg r.lots,sl 4 za r.products,sl 8 vun r.units],.agg [.str u.name,.str u.product,Iv u.version,sl 2 vsi u.uses,sl 3 zp u.results,.str u.partner,.bool u.shipped,Iv u.complaints]] hp=some (.fn (.func 210) [] [.vptr (.agg [.str u.name,.str u.product,Iv u.version,sl 2 vsi u.uses,sl 3 zp u.results,.str u.partner,.bool u.shipped,Iv u.complaints]),.vptr (.agg [Iv r.day,sl 5 zg r.lots,sl 4 za r.products,sl 8 vun r.units])],false,hp):=by
 rw[zc (show pr.fns 139=some c139 from rfl) (by simp)]
 simp only[go_sem,seval,c139]<;>rfl
def f141 (r:qc)(u:qe):Option Bool:=
 jy (itO (qjv r u qqn) (0,[])) fun d=>jy (f134 r u) fun doc=>jy (qws doc.needs d.2) fun b=>some (!b)
def jam:qh:=pcL c141.body
def q9u:qh:=pcL (pcR c141.body)
def jb1:qh:=pcL (pcL (pcR (pcR c141.body)))
def q90:qh:=pcR (pcR (pcR c141.body))
theorem j9c {r:qc}{u:qe}{q}(h:f141 r u=some q):j6 pr (X pr) 141 [.agg [Iv r.day,sl 5 zg r.lots,sl 4 za r.products,sl 8 vun r.units],.agg [.str u.name,.str u.product,Iv u.version,sl 2 vsi u.uses,sl 3 zp u.results,.str u.partner,.bool u.shipped,Iv u.complaints]]=some (.bool q,false):=by
 unfold f141 at h
 obtain⟨d,h1,h⟩:=jw h
 obtain⟨doc,h2,h⟩:=jw h
 obtain⟨b,h3,h⟩:=jw h
 cases h
 have hx:X pr qnx ⟨qgg r u,[.map []]⟩=some (.normal,⟨qgg r u,[.map (qbl d.2)]⟩):=jdm h1
 have w1:=jlj (hp:=[.map []]) (r:=r) (u:=u)
 have ha:yt 1 (.fn (.func 210) [] [.vptr (.agg [.str u.name,.str u.product,Iv u.version,sl 2 vsi u.uses,sl 3 zp u.results,.str u.partner,.bool u.shipped,Iv u.complaints]),.vptr (.agg [Iv r.day,sl 5 zg r.lots,sl 4 za r.products,sl 8 vun r.units])]) ([.map []]:zb)=[.map []]:=qao rfl
 have w2:j6 pr (X pr) 134 [.agg [Iv r.day,sl 5 zg r.lots,sl 4 za r.products,sl 8 vun r.units],.agg [.str u.name,.str u.product,Iv u.version,sl 2 vsi u.uses,sl 3 zp u.results,.str u.partner,.bool u.shipped,Iv u.complaints]]=some (.agg [sl 2 vsi doc.needs,sl 3 zp doc.tests],false):=q7c h2
 have w3:=jsq h3
 have hb:yt 1 (.bool b) ([.map (qbl d.2)]:zb)=[.map (qbl d.2)]:=qao rfl
 have this:∃hh,zj pr (X pr) 141 [.agg [Iv r.day,sl 5 zg r.lots,sl 4 za r.products,sl 8 vun r.units],.agg [.str u.name,.str u.product,Iv u.version,sl 2 vsi u.uses,sl 3 zp u.results,.str u.partner,.bool u.shipped,Iv u.complaints]] []=some (.bool (!b),false,hh):=by
  rw[zc (show pr.fns 141=some ⟨27,.seq jam (.seq q9u (.seq (.seq jb1 (.block 0 qnx)) q90)),[.tmp 4]⟩from rfl) (by simp)]
  simp only[qgg]at hx
  simp only[go_sem,seval,jam,q9u,jb1,q90,pcL,pcR,c141,w1,ha,w2,w3,hb,hx]
  exact⟨_,rfl⟩
 obtain⟨hh,this⟩:=this
 exact qbj rfl this (by first|rfl|simp only[go_sem,seval]) (by first|rfl|simp only[go_sem,seval])
def f75 (r:qc)(u:qe):Option Int:=
 jy (itO (qjv r u p75) (0,none)) fun d=>jy (f53 u.shipped 21) fun e1=>jy (f140 r u) fun lt=>jy (f53 (!decide (u.version=lt)) 32) fun e2=>jy (f141 r u) fun c=>jy (f53 (!c) 20) fun e3=>
 jy (f74 r u) fun m=>jy (f53 (decide (0<((m.1.getD []).length:Int))) 31) fun e4=>jy (f142 d.2) fun hd=>jy (f53 (decide (0<((hd.1.getD []).length:Int))) 34) fun e5=>f51 (some [e1,e2,e3,e4,e5])
def jf5:qh:=pcL c75.body
def jgc:qh:=pcL (pcR c75.body)
def jf6:qh:=pcL (pcL (pcR (pcR c75.body)))
def jgq:qh:=pcR (pcR (pcR c75.body))
theorem W75 {r:qc}{u:qe}{q}(h:f75 r u=some q):j6 pr (X pr) 75 [.agg [Iv r.day,sl 5 zg r.lots,sl 4 za r.products,sl 8 vun r.units],.agg [.str u.name,.str u.product,Iv u.version,sl 2 vsi u.uses,sl 3 zp u.results,.str u.partner,.bool u.shipped,Iv u.complaints]]=some (Iv q,false):=by
 unfold f75 at h
 obtain⟨d,h1,h⟩:=jw h
 obtain⟨e1,g1,h⟩:=jw h
 obtain⟨lt,h2,h⟩:=jw h
 obtain⟨e2,g2,h⟩:=jw h
 obtain⟨c,h3,h⟩:=jw h
 obtain⟨e3,g3,h⟩:=jw h
 obtain⟨m,h4,h⟩:=jw h
 obtain⟨e4,g4,h⟩:=jw h
 obtain⟨hd,h5,h⟩:=jw h
 obtain⟨e5,g5,h⟩:=jw h
 have hx:X pr qqf ⟨E75 r u,[.cells [(.list true 0 [],false)]]⟩=some (.normal,⟨E75 r u,[.cells [(sl 5 zg d.2,d.2.isSome)]]⟩):=jij h1
 have w1:=jlj (hp:=[.cells [(.list true 0 [],false)]]) (r:=r) (u:=u)
 have ha:yt 1 (.fn (.func 210) [] [.vptr (.agg [.str u.name,.str u.product,Iv u.version,sl 2 vsi u.uses,sl 3 zp u.results,.str u.partner,.bool u.shipped,Iv u.complaints]),.vptr (.agg [Iv r.day,sl 5 zg r.lots,sl 4 za r.products,sl 8 vun r.units])]) ([.cells [(.list true 0 [],false)]]:zb)=[.cells [(.list true 0 [],false)]]:=qao rfl
 have k1:=W53 g1
 have w2:j6 pr (X pr) 140 [.agg [Iv r.day,sl 5 zg r.lots,sl 4 za r.products,sl 8 vun r.units],.agg [.str u.name,.str u.product,Iv u.version,sl 2 vsi u.uses,sl 3 zp u.results,.str u.partner,.bool u.shipped,Iv u.complaints]]=some (Iv lt,false):=jj9 h2
 have k2:=W53 g2
 have w3:=j9c h3
 have k3:=W53 g3
 have w4:j6 pr (X pr) 74 [.agg [Iv r.day,sl 5 zg r.lots,sl 4 za r.products,sl 8 vun r.units],.agg [.str u.name,.str u.product,Iv u.version,sl 2 vsi u.uses,sl 3 zp u.results,.str u.partner,.bool u.shipped,Iv u.complaints]]=some (sl 1 yc m.1,m.2):=W74 h4
 have k4:=W53 g4
 have w5:=j5r h5
 have k5:=W53 g5
 have k6:j6 pr (X pr) 51 [.list false 1 [Iv e1,Iv e2,Iv e3,Iv e4,Iv e5]]=some (Iv q,false):=W51 h
 have this:∃hh,zj pr (X pr) 75 [.agg [Iv r.day,sl 5 zg r.lots,sl 4 za r.products,sl 8 vun r.units],.agg [.str u.name,.str u.product,Iv u.version,sl 2 vsi u.uses,sl 3 zp u.results,.str u.partner,.bool u.shipped,Iv u.complaints]] []=some (Iv q,false,hh):=by
  rw[zc (show pr.fns 75=some ⟨44,.seq jf5 (.seq jgc (.seq (.seq jf6 (.block 0 qqf)) jgq)),[.tmp 4]⟩from rfl) (by simp)]
  simp only[E75]at hx
  simp only[go_sem,seval,jf5,jgc,jf6,jgq,pcL,pcR,c75,w1,ha,k1,w2,k2,w3,k3,w4,k4,w5,k5,k6,hx]
  exact⟨_,rfl⟩
 obtain⟨hh,this⟩:=this
 exact qbj rfl this (by first|rfl|simp only[go_sem,seval]) (by first|rfl|simp only[go_sem,seval])
end Go.Z
end
