/- Chapter 10. -/
import Derived.Test.YtfopaakmgogpiaaGreatDoorW6
import Derived.Test.YtfopaakmgogpiaaGreatDoorCA
import Derived.Test.YtfopaakmgogpiaaGreatDoorW4
import Derived.Test.YtfopaakmgogpiaaGreatDoorAbsL
set_option linter.unusedVariables false
set_option linter.unusedSimpArgs false
set_option maxRecDepth 100000
set_option maxHeartbeats 4000000
noncomputable section
namespace Go.Z
open Go Go.Abs Go.W
def q9g (a0:qm)(e0:List (List UInt8×Int)):Option Bool:=
 some (decide ((qgc e0 a0.k)<a0.n))
theorem jv3 {a0:qm}{e0:List (List UInt8×Int)}{r}(h:q9g a0 e0=some r):zf pr (X pr) 211 [aN a0,.vptr (.map 0)] [.map (qba e0)]=some (.bool r,false,[.map (qba e0)]):=by
 unfold q9g at h
 have hr:decide ((qgc e0 a0.k)<a0.n)=r:=Option.some.inj h
 subst hr
 rw[zd (show pr.fns 211=some c211 from rfl) (by simp)]
 simp only[go_sem,seval,c211,jjz]<;>rfl
def qtm (a0:Option (List qm))(e0:List (List UInt8×Int))(s0:Int):Option (Int⊕(Int⊕Int)):=
 cond (decide (s0<((a0.getD []).length:Int)))
  (jw (zo (a0.getD []) s0) fun v14=>
  jw (q9g v14 e0) fun v16=>
  cond v16
   (some (.inr (.inl s0)))
   (some (.inl (j6 .i64 (s0+1)))))
  (some (.inr (.inr s0)))
def qkh (a0:Option (List qm))(e0:List (List UInt8×Int))(s0:Int):qg:=⟨[(0,sl 2 vsi a0,false),(1,.fn (.func 211) [] [.vptr (.map 0)],false),(7,Lv a0,false),(8,Iv s0,false)],[.map (qba e0)]⟩
def qke (a0:Option (List qm))(e0:List (List UInt8×Int)):Int⊕Int→qo×qg
 | .inl d=>(.ret,⟨[(4,Iv d,false)],[.map (qba e0)]⟩)
 | .inr d=>(.exit 0,⟨[(0,sl 2 vsi a0,false),(1,.fn (.func 211) [] [.vptr (.map 0)],false),(7,Lv a0,false),(8,Iv d,false),(9,.bool false,false)],[.map (qba e0)]⟩)
theorem jm8 (a0:Option (List qm))(e0:List (List UInt8×Int))(s0:Int)(r)(h:qtm a0 e0 s0=some r):yq pr qck (qkh a0 e0) (qke a0 e0) s0 r:=by
 unfold qtm at h
 repeat' first|(replace h:=jx h;obtain⟨d,g,h⟩:=h;with_reducible first|replace g:=jv3 g|skip)|(replace h:=jz h;rcases h with⟨g,h⟩|⟨g,h⟩)|fail
 all_goals (cases h<;>(first|(refine zw ?_;simp only[go_sem,seval,qck,qkh,zn,qke,*]<;>rfl)|(refine yl ?_;simp only[go_sem,seval,qck,qkh,zn,qke,*]<;>rfl)))
theorem jkn (a0:Option (List qm))(e0:List (List UInt8×Int)){s0:Int}{d}(h:itO (qtm a0 e0) s0=some d):X pr (.loop qck) (qkh a0 e0 s0)=some (qke a0 e0 d):=y8 (jm8 a0 e0) (fun d=>by rcases d with d|d<;>(intro hh;cases hh)) h
def qxg (a0:Option (List qm))(e0:List (List UInt8×Int)):Option Int:=
 jw (itO (qtm a0 e0) 0) fun d19=>match d19 with
  | .inl d21=>
   some d21
  | .inr d22=>
   some (-1)
theorem jzg {a0:Option (List qm)}{e0:List (List UInt8×Int)}{r}(h:qxg a0 e0=some r):zf pr (X pr) 235 [sl 2 vsi a0,.fn (.func 211) [] [.vptr (.map 0)]] [.map (qba e0)]=some (Iv r,false,[.map (qba e0)]):=by
 unfold qxg at h
 rw[zd (show pr.fns 235=some c235 from rfl) (by simp)]
 repeat' first|(replace h:=jx h;obtain⟨d,g,h⟩:=h;with_reducible first|(replace g:=jkn a0 e0 g;rcases d with d|d<;>dsimp only[qkh,qke,kc]at g h)|skip)|(replace h:=jz h;rcases h with⟨g,h⟩|⟨g,h⟩)|fail
 all_goals (cases h<;>(simp only[go_sem,seval,c235,*]<;>rfl))
def qxs (a0:Option (List qm))(e0:List (List UInt8×Int)):Option Bool:=
 jw (qxg a0 e0) fun v1=>
 some (decide (0≤v1))
theorem j5m {a0:Option (List qm)}{e0:List (List UInt8×Int)}{r}(h:qxs a0 e0=some r):zf pr (X pr) 168 [sl 2 vsi a0,.fn (.func 211) [] [.vptr (.map 0)]] [.map (qba e0)]=some (.bool r,false,[.map (qba e0)]):=by
 unfold qxs at h
 obtain⟨v1,h2,h⟩:=jx h
 have wh2:zf pr (X pr) 235 [sl 2 vsi a0,.fn (.func 211) [] [.vptr (.map 0)]] [.map (qba e0)]=some (Iv v1,false,[.map (qba e0)]):=jzg h2
 have hr:decide (0≤v1)=r:=Option.some.inj h
 subst hr
 rw[zd (show pr.fns 168=some c168 from rfl) (by simp)]
 simp only[go_sem,seval,c168,wh2]<;>rfl
def f143 (a0:qj):Option Bool:=
 some a0.held
theorem j96 (hp:j8){a0:qj}{r}(h:f143 a0=some r):zf pr (X pr) 143 [aL a0] hp=some (.bool r,false,hp):=by
 unfold f143 at h
 have hr:a0.held=r:=Option.some.inj h
 subst hr
 rw[zd (show pr.fns 143=some c143 from rfl) (by simp)]
 simp only[go_sem,seval,c143]<;>rfl
def qp8 (a0:Option (List qj))(s0:(Option (List qj))×Int×Bool):Option (((Option (List qj))×Int×Bool)⊕(((Option (List qj))×Bool×Int))):=
 cond (decide (s0.2.1<((a0.getD []).length:Int)))
  (jw (zo (a0.getD []) s0.2.1) fun v20=>
  jw (f143 v20) fun v22=>
  cond v22
   (cond s0.2.2
    (jw (apO s0.1 [v20]) fun v26=>
    some (.inl (v26,j6 .i64 (s0.2.1+1),true)))
    (cond s0.1.isNone
     (jw (apO s0.1 [v20]) fun v29=>
     some (.inl (v29,j6 .i64 (s0.2.1+1),true)))
     (none)))
   (some (.inl (s0.1,j6 .i64 (s0.2.1+1),s0.2.2))))
  (some (.inr (s0.1,s0.2.2,s0.2.1)))
def qni (a0:Option (List qj))(s0:(Option (List qj))×Int×Bool):qg:=⟨[(1,.fn (.func 143) [] [],false),(5,sl 5 z7 s0.1,s0.2.2),(8,sl 5 z7 a0,false),(9,Lv a0,false),(10,Iv s0.2.1,false)],[]⟩
def qn5 (a0:Option (List qj))(d:((Option (List qj))×Bool×Int)):qo×qg:=(.exit 0,⟨[(1,.fn (.func 143) [] [],false),(5,sl 5 z7 d.1,d.2.1),(8,sl 5 z7 a0,false),(9,Lv a0,false),(10,Iv d.2.2,false),(11,.bool false,false)],[]⟩)
theorem juh (a0:Option (List qj))(s0:(Option (List qj))×Int×Bool)(r)(h:qp8 a0 s0=some r):yq pr qqb (qni a0) (qn5 a0) s0 r:=by
 unfold qp8 at h
 repeat' first|(replace h:=jx h;obtain⟨d,g,h⟩:=h;with_reducible first|replace g:=j96 [] g|replace g:=qs8 g|skip)|(replace h:=jz h;rcases h with⟨g,h⟩|⟨g,h⟩)|fail
 all_goals (cases h<;>(first|(refine zw ?_;simp only[go_sem,seval,qqb,qni,zn,qn5,*]<;>rfl)|(refine yl ?_;simp only[go_sem,seval,qqb,qni,zn,qn5,*]<;>rfl)))
theorem jqm (a0:Option (List qj)){s0:(Option (List qj))×Int×Bool}{d}(h:itO (qp8 a0) s0=some d):X pr (.loop qqb) (qni a0 s0)=some (qn5 a0 d):=y8 (juh a0) (fun d hh=>by cases hh) h
def f142 (a0:Option (List qj)):Option ((Option (List qj))×Bool):=
 jw (itO (qp8 a0) (none,0,false)) fun d31=>
 some (d31.1,d31.2.1)
theorem zeg {a0:Option (List qj)}{r}(h:f142 a0=some r):jy pr (X pr) 142 [sl 5 z7 a0,.fn (.func 143) [] []]=some (sl 5 z7 r.1,r.2):=by
 unfold f142 at h
 refine qa5 c142 ?_
 repeat' first|(replace h:=jx h;obtain⟨d,g,h⟩:=h;with_reducible first|(replace g:=jqm a0 g;dsimp only[qni,qn5,kc]at g h)|skip)|(replace h:=jz h;rcases h with⟨g,h⟩|⟨g,h⟩)|fail
 all_goals (cases h<;>(simp only[go_sem,seval,c142,*];exact⟨_,rfl⟩))
end Go.Z
namespace Go.Z
open Go Go.Abs Go.W
def pcL:qe→qe
 | .seq a _=>a
 |x=>x
def pcR:qe→qe
 | .seq _ b=>b
 |x=>x
def pcB:qe→qe
 | .block _ b=>b
 |x=>x
def rfA:qe→qe
 | .rangeFunc _ _ a _=>a
 |x=>x
def rfB:qe→qe
 | .rangeFunc _ _ _ b=>b
 |x=>x
theorem qxx {n:Nat}{v:qa}{h t:j8}(hn:h.length=n)(hv:Abs.below n v=true)(hb:ki n h=true):yi n v (h++t)=h:=by
 have ht:(h++t).take n=h:=by rw[←hn,List.take_left'];rfl
 unfold yi
 rw[ht,hv,hb]
 cases hc:Nat.ble (h++t).length n with
 |true=>
  have:=Nat.le_of_ble_eq_true hc
  rw[List.length_append,hn]at this
  have:t=[]:=List.eq_nil_of_length_eq_zero (by omega)
  subst this;simp
 |false=>rfl
theorem qaa {n:Nat}{v:qa}{h:j8}(hn:h.length=n):yi n v h=h:=by
 unfold yi
 rw[Nat.ble_eq_true_of_le (by omega)];rfl
section
variable {σ:Type}(r:qc)(u:qf)(H:σ→j8)(step:σ→qj→Int→Option σ)
def qh5 (x:Int×σ):Option ((Int×σ)⊕(Int×σ)):=
 cond (decide (x.1<((u.uses.getD []).length:Int)))
  (jw (zo (u.uses.getD []) x.1) fun s=>jw (f72 r s.k) fun v=>jw (zo (r.lots.getD []) v) fun l=>jw (step x.2 l s.n) fun y=>some (.inl (j6 .i64 (x.1+1),y)))
  (some (.inr x))
def qs1 (x:Int×σ):qg:=⟨[(0,.fn (.yield 1) [] [],false),(2,.vptr (aR r),false),(7,sl 2 vsi u.uses,false),(8,Lv u.uses,false),(9,Iv x.1,false)],H x.2⟩
def q1q (x:Int×σ):qo×qg:=(.exit 0,⟨[(0,.fn (.yield 1) [] [],false),(2,.vptr (aR r),false),(7,sl 2 vsi u.uses,false),(8,Lv u.uses,false),(9,Iv x.1,false),(10,.bool false,false)],H x.2⟩)
theorem zao (hy:∀x l n y,step x l n=some y→qbh (X pr) 1 [aL l,Iv n] (H x)=some (.bool true,H y))(hl:∀x,(H x).length=2)(x:Int×σ)(q)(h:qh5 r u step x=some q):yq pr qqk (qs1 r u H) (q1q r u H) x q:=by
 unfold qh5 at h
 rcases jz h with⟨h1,h⟩|⟨h1,h⟩
 ·obtain⟨s,h2,h⟩:=jx h
  obtain⟨v,h3,h⟩:=jx h
  obtain⟨l,h4,h⟩:=jx h
  obtain⟨y,h5,h⟩:=jx h
  cases h
  have g:=hy _ _ _ _ h5
  have w:=W72 h3
  exact qex (st':=qs1 r u H (j6 .i64 (x.1+1),y)) (by simp only[go_sem,seval,qqk,qs1,h1,ke h2,w,ke h4,g]<;>rfl) (qh3 (by show(H y).length≤(H x.2).length;rw[hl,hl];exact Nat.le_refl _))
 ·cases h
  exact zw (by simp only[go_sem,seval,qqk,qs1,h1,q1q]<;>rfl)
theorem jtw {r:qc}{u:qf}{H:σ→j8}{step:σ→qj→Int→Option σ}(hy:∀x l n y,step x l n=some y→qbh (X pr) 1 [aL l,Iv n] (H x)=some (.bool true,H y))(hl:∀x,(H x).length=2){x0:σ}{d}(h:itO (qh5 r u step) (0,x0)=some d):zf pr (X pr) 210 [.fn (.yield 1) [] [],.vptr (aU u),.vptr (aR r)] (H x0)=some (.tup [],false,H d.2):=by
 have h1:X pr (.loop qqk) (qs1 r u H (0,x0))=some (q1q r u H d):=y8 (zao r u H step hy hl) (fun d=>by intro hh;cases hh) h
 rw[zd (show pr.fns 210=some c210 from rfl) (by simp)]
 simp only[qs1,q1q]at h1
 simp only[go_sem,seval,c210,h1]<;>rfl
end
def qov:qe:=pcB (pcR (pcL (pcR (pcR c75.body))))
def qki:qe:=rfA qov
def qjo:qe:=rfB qov
theorem jk3:qov=.rangeFunc (.tmp 9) [10,11] qki qjo:=rfl
def E75 (r:qc)(u:qf):Env:=[(2,.vptr (aR r),false),(3,.vptr (aU u),false),(5,.ptr 0 0,false),(9,.fn (.func 210) [] [.vptr (aU u),.vptr (aR r)],false)]
def G75 (o:Option (List qj)):j8:=[.cells [(sl 5 z7 o,o.isSome)]]
def H75 (r:qc)(u:qf)(pd:Option qo)(o:Option (List qj)):j8:=[.cells [(sl 5 z7 o,o.isSome)],.loop ⟨E75 r u,[10,11],qki,qjo,pd⟩]
def jgp (r:qc)(u:qf)(l:qj)(n:Int):Env:=(([10,11][1]),Iv n,false)::(([10,11][0]),aL l,false)::E75 r u
def q8c (r:qc)(u:qf)(l:qj)(n:Int):Env:=[(2,.vptr (aR r),false),(3,.vptr (aU u),false),(5,.ptr 0 0,false),(6,.vptr (aL l),false)]
theorem zf2 {r:qc}{u:qf}{l:qj}{n:Int}:qf2 (noOwn (E75 r u)) [10,11] [aL l,Iv n]=some (jgp r u l n):=rfl
theorem jhs {r:qc}{u:qf}{l:qj}{n:Int}{H:j8}:X pr qki ⟨jgp r u l n,H⟩=some (.normal,⟨q8c r u l n,H⟩):=by
 simp only[go_sem,seval,qki,rfA,qov,pcB,pcL,pcR,c75,jgp,E75,List.getElem_cons_zero,List.getElem_cons_succ]<;>rfl
def p75 (o:Option (List qj))(l:qj)(_:Int):Option (Option (List qj)):=apO o [l]
theorem jf7 {r:qc}{u:qf}{l:qj}{n:Int}{pd:Option qo}{o o':Option (List qj)}(ho:p75 o l n=some o'):∃e t,X pr qjo ⟨q8c r u l n,H75 r u pd o⟩=some (.normal,⟨e,H75 r u pd o'++t⟩):=by
 unfold p75 at ho
 have hs:o'.isSome=true:=by
  cases o' with
  |some _=>rfl
  |none=>cases o<;>simp[apO,apS]at ho
 cases o with
 |none=>
  have ap:=fun(b:Nat) (h:j8) (bb:Bool)=>qxw (b:=b) (h:=h) (bb:=bb) ho rfl
  simp only[go_sem,seval,qjo,rfB,qov,pcB,pcL,pcR,c75,q8c,H75,ap,Option.isSome_none,hs]
  exact⟨_,_,rfl⟩
 |some o=>
  have ap:=fun(b t:Nat) (h:j8) (bb:Bool)=>qxf (b:=b) (t:=t) (h:=h) (bb:=bb) ho
  simp only[go_sem,seval,qjo,rfB,qov,pcB,pcL,pcR,c75,q8c,H75,ap,Option.isSome_some,hs]
  exact⟨_,_,rfl⟩
theorem ja9 {r:qc}{u:qf}{pd:Option qo}{o:Option (List qj)}:ki 2 (H75 r u pd o)=true:=by
 simp only[go_sem,seval,H75,ki,qcx,qbt,qbw,E75]<;>rfl
theorem y75 {r:qc}{u:qf}{l:qj}{n:Int}{o o':Option (List qj)}(ho:p75 o l n=some o'):qbh (X pr) 1 [aL l,Iv n] (H75 r u none o)=some (.bool true,H75 r u none o'):=by
 have g:∀o pd t,y6 (H75 r u pd o++t) 1=some (.loop ⟨E75 r u,[10,11],qki,qjo,pd⟩):=fun _ _ _=>rfl
 have g0:∀o pd,y6 (H75 r u pd o) 1=some (.loop ⟨E75 r u,[10,11],qki,qjo,pd⟩):=fun _ _=>rfl
 have st:∀o pd pd' t,(H75 r u pd o++t).set 1 (.loop ⟨E75 r u,[10,11],qki,qjo,pd'⟩)=H75 r u pd' o++t:=fun _ _ _ _=>rfl
 have st0:∀o pd pd',(H75 r u pd o).set 1 (.loop ⟨E75 r u,[10,11],qki,qjo,pd'⟩)=H75 r u pd' o:=fun _ _ _=>rfl
 have hl:∀o pd,(H75 r u pd o).length=2:=fun _ _=>rfl
 have ha:∀o pd v t,Abs.below 2 v=true→yi 2 v (H75 r u pd o++t)=H75 r u pd o:=fun _ _ _ _ hv=>qxx rfl hv ja9
 obtain⟨e,t,hx⟩:=jf7 (r:=r) (u:=u) (n:=n) (pd:=some .normal) ho
 unfold qbh
 simp only[g0,zf2,jhs,Option.isNone_none,cT,st0,hl,hx,g,st]
 rw[ha _ _ _ _ rfl]
theorem jmv {r:qc}{u:qf}{o:Option (List qj)}{d}(h:itO (qh5 r u p75) (0,o)=some d):X pr qov ⟨E75 r u,G75 o⟩=some (.normal,⟨E75 r u,G75 d.2⟩):=by
 have h1:=jtw (H:=H75 r u none) (fun x l n y hs=>y75 hs) (fun _=>rfl) h
 have hb:∀o,ki 1 (G75 o)=true:=by
  intro o
  simp only[go_sem,seval,G75,ki,qcx,qbt]<;>rfl
 rw[jk3,qyn]
 unfold qdd
 have hn:(kn qki&&kn qjo)=true:=rfl
 have he:zc (E75 r u) (.tmp 9)=some (.fn (.func 210) [] [.vptr (aU u),.vptr (aR r)]):=rfl
 have hl:∀o,(G75 o).length=1:=fun _=>rfl
 have hap:∀o,G75 o++[.loop ⟨E75 r u,[10,11],qki,qjo,none⟩]=H75 r u none o:=fun _=>rfl
 have hg:∀o,y6 (H75 r u none o) 1=some (.loop ⟨E75 r u,[10,11],qki,qjo,none⟩):=fun _=>rfl
 have ht:∀o,(H75 r u none o).take 1=G75 o:=fun _=>rfl
 simp only[hn,cT,he,hl,List.nil_append,List.cons_append,hap,h1,hg,ht,hb]
def ql3:qe:=pcB (pcR (pcL (pcR (pcR c141.body))))
def qhj:qe:=rfA ql3
def qhw:qe:=rfB ql3
theorem jer:ql3=.rangeFunc (.tmp 11) [12,13] qhj qhw:=rfl
def qfv (r:qc)(u:qf):Env:=[(2,.vptr (aR r),false),(3,.vptr (aU u),false),(5,.vptr (.map 0),false),(11,.fn (.func 210) [] [.vptr (aU u),.vptr (aR r)],false)]
def qui (o:List (List UInt8×Int)):j8:=[.map (qba o)]
def qej (r:qc)(u:qf)(pd:Option qo)(o:List (List UInt8×Int)):j8:=[.map (qba o),.loop ⟨qfv r u,[12,13],qhj,qhw,pd⟩]
def q7s (r:qc)(u:qf)(l:qj)(n:Int):Env:=(([12,13][1]),Iv n,false)::(([12,13][0]),aL l,false)::qfv r u
def q9m (r:qc)(u:qf)(l:qj)(n:Int):Env:=[(2,.vptr (aR r),false),(3,.vptr (aU u),false),(5,.vptr (.map 0),false),(6,.vptr (aL l),false),(7,Iv n,false)]
theorem jw1 {r:qc}{u:qf}{l:qj}{n:Int}:qf2 (noOwn (qfv r u)) [12,13] [aL l,Iv n]=some (q7s r u l n):=rfl
theorem jcb {r:qc}{u:qf}{l:qj}{n:Int}{H:j8}:X pr qhj ⟨q7s r u l n,H⟩=some (.normal,⟨q9m r u l n,H⟩):=by
 simp only[go_sem,seval,qhj,rfA,ql3,pcB,pcL,pcR,c141,q7s,qfv,List.getElem_cons_zero,List.getElem_cons_succ]<;>rfl
def qow (o:List (List UInt8×Int))(l:qj)(n:Int):Option (List (List UInt8×Int)):=q84 o l.kind (j6 .i64 (qgc o l.kind+n))
theorem jbu {r:qc}{u:qf}{l:qj}{n:Int}{pd:Option qo}{o o':List (List UInt8×Int)}(ho:qow o l n=some o'):∃e t,X pr qhw ⟨q9m r u l n,qej r u pd o⟩=some (.normal,⟨e,qej r u pd o'++t⟩):=by
 unfold qow at ho
 simp only[go_sem,seval,qhw,rfB,ql3,pcB,pcL,pcR,c141,q9m,qej,jjz,jn2 ho]
 exact⟨_,_,rfl⟩
theorem q7w {r:qc}{u:qf}{pd:Option qo}{o:List (List UInt8×Int)}:ki 2 (qej r u pd o)=true:=by
 simp only[go_sem,seval,qej,ki,qcx,qbt,qbw,qfv]<;>rfl
theorem zc9 {r:qc}{u:qf}{l:qj}{n:Int}{o o':List (List UInt8×Int)}(ho:qow o l n=some o'):qbh (X pr) 1 [aL l,Iv n] (qej r u none o)=some (.bool true,qej r u none o'):=by
 have g:∀o pd t,y6 (qej r u pd o++t) 1=some (.loop ⟨qfv r u,[12,13],qhj,qhw,pd⟩):=fun _ _ _=>rfl
 have g0:∀o pd,y6 (qej r u pd o) 1=some (.loop ⟨qfv r u,[12,13],qhj,qhw,pd⟩):=fun _ _=>rfl
 have st:∀o pd pd' t,(qej r u pd o++t).set 1 (.loop ⟨qfv r u,[12,13],qhj,qhw,pd'⟩)=qej r u pd' o++t:=fun _ _ _ _=>rfl
 have st0:∀o pd pd',(qej r u pd o).set 1 (.loop ⟨qfv r u,[12,13],qhj,qhw,pd'⟩)=qej r u pd' o:=fun _ _ _=>rfl
 have hl:∀o pd,(qej r u pd o).length=2:=fun _ _=>rfl
 have ha:∀o pd v t,Abs.below 2 v=true→yi 2 v (qej r u pd o++t)=qej r u pd o:=fun _ _ _ _ hv=>qxx rfl hv q7w
 obtain⟨e,t,hx⟩:=jbu (r:=r) (u:=u) (n:=n) (pd:=some .normal) ho
 unfold qbh
 simp only[g0,jw1,jcb,Option.isNone_none,cT,st0,hl,hx,g,st]
 rw[ha _ _ _ _ rfl]
theorem jhd {r:qc}{u:qf}{o:List (List UInt8×Int)}{d}(h:itO (qh5 r u qow) (0,o)=some d):X pr ql3 ⟨qfv r u,qui o⟩=some (.normal,⟨qfv r u,qui d.2⟩):=by
 have h1:=jtw (H:=qej r u none) (fun x l n y hs=>zc9 hs) (fun _=>rfl) h
 have hb:∀o,ki 1 (qui o)=true:=by
  intro o
  simp only[go_sem,seval,qui,ki,qcx,qbt]<;>rfl
 rw[jer,qyn]
 unfold qdd
 have hn:(kn qhj&&kn qhw)=true:=rfl
 have he:zc (qfv r u) (.tmp 11)=some (.fn (.func 210) [] [.vptr (aU u),.vptr (aR r)]):=rfl
 have hl:∀o,(qui o).length=1:=fun _=>rfl
 have hap:∀o,qui o++[.loop ⟨qfv r u,[12,13],qhj,qhw,none⟩]=qej r u none o:=fun _=>rfl
 have hg:∀o,y6 (qej r u none o) 1=some (.loop ⟨qfv r u,[12,13],qhj,qhw,none⟩):=fun _=>rfl
 have ht:∀o,(qej r u none o).take 1=qui o:=fun _=>rfl
 simp only[hn,cT,he,hl,List.nil_append,List.cons_append,hap,h1,hg,ht,hb]
end Go.Z
namespace Go.Z
open Go Go.Abs Go.W
theorem jsu {hp:j8}{r:qc}{u:qf}:zf pr (X pr) 139 [aR r,aU u] hp=some (.fn (.func 210) [] [.vptr (aU u),.vptr (aR r)],false,hp):=by
 rw[zd (show pr.fns 139=some c139 from rfl) (by simp)]
 simp only[go_sem,seval,c139]<;>rfl
def f141 (r:qc)(u:qf):Option Bool:=
 jw (itO (qh5 r u qow) (0,[])) fun d=>jw (f134 r u) fun doc=>jw (qxs doc.needs d.2) fun b=>some (!b)
def jax:qe:=pcL c141.body
def jcy:qe:=pcL (pcR c141.body)
def jbh:qe:=pcL (pcL (pcR (pcR c141.body)))
def jbf:qe:=pcR (pcR (pcR c141.body))
theorem zdk {r:qc}{u:qf}{q}(h:f141 r u=some q):jy pr (X pr) 141 [aR r,aU u]=some (.bool q,false):=by
 unfold f141 at h
 obtain⟨d,h1,h⟩:=jx h
 obtain⟨doc,h2,h⟩:=jx h
 obtain⟨b,h3,h⟩:=jx h
 cases h
 have hx:X pr ql3 ⟨qfv r u,[.map []]⟩=some (.normal,⟨qfv r u,[.map (qba d.2)]⟩):=jhd h1
 have w1:=jsu (hp:=[.map []]) (r:=r) (u:=u)
 have ha:yi 1 (.fn (.func 210) [] [.vptr (aU u),.vptr (aR r)]) ([.map []]:j8)=[.map []]:=qaa rfl
 have w2:jy pr (X pr) 134 [aR r,aU u]=some (aD doc,false):=q7g h2
 have w3:=j5m h3
 have hb:yi 1 (.bool b) ([.map (qba d.2)]:j8)=[.map (qba d.2)]:=qaa rfl
 have this:∃hh,zf pr (X pr) 141 [aR r,aU u] []=some (.bool (!b),false,hh):=by
  rw[zd (show pr.fns 141=some ⟨27,.seq jax (.seq jcy (.seq (.seq jbh (.block 0 ql3)) jbf)),[.tmp 4]⟩from rfl) (by simp)]
  simp only[qfv]at hx
  simp only[go_sem,seval,jax,jcy,jbh,jbf,pcL,pcR,c141,w1,ha,w2,w3,hb,hx]
  exact⟨_,rfl⟩
 obtain⟨hh,this⟩:=this
 exact kq rfl this (by first|rfl|simp only[go_sem,seval]) (by first|rfl|simp only[go_sem,seval])
def f75 (r:qc)(u:qf):Option Int:=
 jw (itO (qh5 r u p75) (0,none)) fun d=>jw (f53 u.shipped 21) fun e1=>jw (f140 r u) fun lt=>jw (f53 (!decide (u.version=lt)) 32) fun e2=>jw (f141 r u) fun c=>jw (f53 (!c) 20) fun e3=>
 jw (f74 r u) fun m=>jw (f53 (decide (0<((m.1.getD []).length:Int))) 31) fun e4=>jw (f142 d.2) fun hd=>jw (f53 (decide (0<((hd.1.getD []).length:Int))) 34) fun e5=>f51 (some [e1,e2,e3,e4,e5])
def jkc:qe:=pcL c75.body
def jke:qe:=pcL (pcR c75.body)
def jjy:qe:=pcL (pcL (pcR (pcR c75.body)))
def jjm:qe:=pcR (pcR (pcR c75.body))
theorem W75 {r:qc}{u:qf}{q}(h:f75 r u=some q):jy pr (X pr) 75 [aR r,aU u]=some (Iv q,false):=by
 unfold f75 at h
 obtain⟨d,h1,h⟩:=jx h
 obtain⟨e1,g1,h⟩:=jx h
 obtain⟨lt,h2,h⟩:=jx h
 obtain⟨e2,g2,h⟩:=jx h
 obtain⟨c,h3,h⟩:=jx h
 obtain⟨e3,g3,h⟩:=jx h
 obtain⟨m,h4,h⟩:=jx h
 obtain⟨e4,g4,h⟩:=jx h
 obtain⟨hd,h5,h⟩:=jx h
 obtain⟨e5,g5,h⟩:=jx h
 have hx:X pr qov ⟨E75 r u,[.cells [(Nl,false)]]⟩=some (.normal,⟨E75 r u,[.cells [(sl 5 z7 d.2,d.2.isSome)]]⟩):=jmv h1
 have w1:=jsu (hp:=[.cells [(Nl,false)]]) (r:=r) (u:=u)
 have ha:yi 1 (.fn (.func 210) [] [.vptr (aU u),.vptr (aR r)]) ([.cells [(Nl,false)]]:j8)=[.cells [(Nl,false)]]:=qaa rfl
 have k1:=W53 g1
 have w2:jy pr (X pr) 140 [aR r,aU u]=some (Iv lt,false):=juq h2
 have k2:=W53 g2
 have w3:=zdk h3
 have k3:=W53 g3
 have w4:jy pr (X pr) 74 [aR r,aU u]=some (sl 1 qae m.1,m.2):=W74 h4
 have k4:=W53 g4
 have w5:=zeg h5
 have k5:=W53 g5
 have k6:jy pr (X pr) 51 [.list false 1 [Iv e1,Iv e2,Iv e3,Iv e4,Iv e5]]=some (Iv q,false):=W51 h
 have this:∃hh,zf pr (X pr) 75 [aR r,aU u] []=some (Iv q,false,hh):=by
  rw[zd (show pr.fns 75=some ⟨44,.seq jkc (.seq jke (.seq (.seq jjy (.block 0 qov)) jjm)),[.tmp 4]⟩from rfl) (by simp)]
  simp only[E75]at hx
  simp only[go_sem,seval,jkc,jke,jjy,jjm,pcL,pcR,c75,w1,ha,k1,w2,k2,w3,k3,w4,k4,w5,k5,k6,hx]
  exact⟨_,rfl⟩
 obtain⟨hh,this⟩:=this
 exact kq rfl this (by first|rfl|simp only[go_sem,seval]) (by first|rfl|simp only[go_sem,seval])
end Go.Z
end
