/- Chapter 10. -/
import Derived.Test.YtfopaakmgogpiaaGreatDoorW6
import Derived.Test.YtfopaakmgogpiaaGreatDoorW4
set_option linter.unusedVariables false
set_option linter.unusedSimpArgs false
set_option maxRecDepth 100000
set_option maxHeartbeats 4000000
noncomputable section
open Bool renaming false→I,true→En
open Option renaming some→Eh,none→Ek,isNone_none→Eo
namespace Go.Z
open Go Go.Abs Go.W
def X2 (a0:qk)(e0:List (List UInt8×Int)):Option Bool:=
 Eh (decide ((mC e0 a0.k)<a0.n))
theorem j7y {a0 e0 r}(h:X2 a0 e0=Eh r):ze pr (X pr) 211 [aN a0,.ah (.map 0)] [.map (ej e0)]=Eh (.bool r,I,[.map (ej e0)]):=by
 unfold X2 at h
 have hr:decide ((mC e0 a0.k)<a0.n)=r:=Eh.inj h
 subst hr
 rw[zf (show pr.bB 211=Eh tw from rfl) (by simp)]
 simp only[go_sem,seval,tw,jlj]<;>rfl
def PP (a0:Option (List qk))(e0:List (List UInt8×Int))(s0:Int):Option (Int⊕(Int⊕Int)):=
 cond (decide (s0<((a0.getD []).length:Int)))
  (jw (zn (a0.getD []) s0) fun dB=>
  jw (X2 dB e0) fun da=>
  cond da
   (Eh (.inr (.inl s0)))
   (Eh (.inl (j6 .i64 (s0+1)))))
  (Eh (.inr (.inr s0)))
def Ks (a0:Option (List qk))(e0:List (List UInt8×Int))(s0:Int):qg:=⟨[(0,sl 2 aV a0,I),(1,.fn (.func 211) [] [.ah (.map 0)],I),(7,Lv a0,I),(8,Iv s0,I)],[.map (ej e0)]⟩
def Kt (a0:Option (List qk))(e0:List (List UInt8×Int)):Int⊕Int→qi×qg
 | .inl d=>(.ret,⟨[(4,Iv d,I)],[.map (ej e0)]⟩)
 | .inr d=>(.exit 0,⟨[(0,sl 2 aV a0,I),(1,.fn (.func 211) [] [.ah (.map 0)],I),(7,Lv a0,I),(8,Iv d,I),(9,.bool I,I)],[.map (ej e0)]⟩)
theorem jmv (a0:Option (List qk))(e0:List (List UInt8×Int))(s0:Int)(r)(h:PP a0 e0 s0=Eh r):yr pr lT (Ks a0 e0) (Kt a0 e0) s0 r:=by
 unfold PP at h
 repeat' first|(replace h:=jx h;obtain⟨d,g,h⟩:=h;with_reducible first|replace g:=j7y g|skip)|(replace h:=jz h;rcases h with⟨g,h⟩|⟨g,h⟩)|fail
 all_goals (cases h<;>(first|(refine zu ?_;simp only[go_sem,seval,lT,Ks,zj,Kt, *]<;>rfl)|(refine yl ?_;simp only[go_sem,seval,lT,Ks,zj,Kt, *]<;>rfl)))
theorem jox (a0:Option (List qk))(e0:List (List UInt8×Int)){s0 d}(h:aY (PP a0 e0) s0=Eh d):X pr (.loop lT) (Ks a0 e0 s0)=Eh (Kt a0 e0 d):=y8 (jmv a0 e0) (fun d=>by rcases d with d|d<;>(intro hh;cases hh)) h
def Ih (a0:Option (List qk))(e0:List (List UInt8×Int)):Option Int:=
 jw (aY (PP a0 e0) 0) fun d19=>match d19 with
  | .inl d21=>
   Eh d21
  | .inr d22=>
   Eh (-1)
theorem j56 {a0 e0 r}(h:Ih a0 e0=Eh r):ze pr (X pr) 235 [sl 2 aV a0,.fn (.func 211) [] [.ah (.map 0)]] [.map (ej e0)]=Eh (Iv r,I,[.map (ej e0)]):=by
 unfold Ih at h
 rw[zf (show pr.bB 235=Eh iw from rfl) (by simp)]
 repeat' first|(replace h:=jx h;obtain⟨d,g,h⟩:=h;with_reducible first|(replace g:=jox a0 e0 g;rcases d with d|d<;>dsimp only[Ks,Kt,y7]at g h)|skip)|(replace h:=jz h;rcases h with⟨g,h⟩|⟨g,h⟩)|fail
 all_goals (cases h<;>(simp only[go_sem,seval,iw, *]<;>rfl))
def Ig (a0:Option (List qk))(e0:List (List UInt8×Int)):Option Bool:=
 jw (Ih a0 e0) fun v1=>
 Eh (decide (0≤v1))
theorem j7l {a0 e0 r}(h:Ig a0 e0=Eh r):ze pr (X pr) 168 [sl 2 aV a0,.fn (.func 211) [] [.ah (.map 0)]] [.map (ej e0)]=Eh (.bool r,I,[.map (ej e0)]):=by
 unfold Ig at h
 obtain⟨v1,h2,h⟩:=jx h
 have iR:ze pr (X pr) 235 [sl 2 aV a0,.fn (.func 211) [] [.ah (.map 0)]] [.map (ej e0)]=Eh (Iv v1,I,[.map (ej e0)]):=j56 h2
 have hr:decide (0≤v1)=r:=Eh.inj h
 subst hr
 rw[zf (show pr.bB 168=Eh kU from rfl) (by simp)]
 simp only[go_sem,seval,kU,iR]<;>rfl
def f143 (a0:qm):Option Bool:=
 Eh a0.held
theorem zc4 (hp:za){a0 r}(h:f143 a0=Eh r):ze pr (X pr) 143 [aL a0] hp=Eh (.bool r,I,hp):=by
 unfold f143 at h
 have hr:a0.held=r:=Eh.inj h
 subst hr
 rw[zf (show pr.bB 143=Eh tz from rfl) (by simp)]
 simp only[go_sem,seval,tz]<;>rfl
def Ii (a0:Option (List qm))(s0:(Option (List qm))×Int×Bool):Option (((Option (List qm))×Int×Bool)⊕(((Option (List qm))×Bool×Int))):=
 cond (decide (s0.2.1<((a0.getD []).length:Int)))
  (jw (zn (a0.getD []) s0.2.1) fun v20=>
  jw (f143 v20) fun eH=>
  cond eH
   (cond s0.2.2
    (jw (bj s0.1 [v20]) fun eg=>
    Eh (.inl (eg,j6 .i64 (s0.2.1+1),En)))
    (cond s0.1.isNone
     (jw (bj s0.1 [v20]) fun fc=>
     Eh (.inl (fc,j6 .i64 (s0.2.1+1),En)))
     (Ek)))
   (Eh (.inl (s0.1,j6 .i64 (s0.2.1+1),s0.2.2))))
  (Eh (.inr (s0.1,s0.2.2,s0.2.1)))
def Ku (a0:Option (List qm))(s0:(Option (List qm))×Int×Bool):qg:=⟨[(1,.fn (.func 143) [] [],I),(5,sl 5 zw s0.1,s0.2.2),(8,sl 5 zw a0,I),(9,Lv a0,I),(10,Iv s0.2.1,I)],[]⟩
def Kv (a0:Option (List qm))(d:((Option (List qm))×Bool×Int)):qi×qg:=(.exit 0,⟨[(1,.fn (.func 143) [] [],I),(5,sl 5 zw d.1,d.2.1),(8,sl 5 zw a0,I),(9,Lv a0,I),(10,Iv d.2.2,I),(11,.bool I,I)],[]⟩)
theorem jqq (a0:Option (List qm))(s0:(Option (List qm))×Int×Bool)(r)(h:Ii a0 s0=Eh r):yr pr Kx (Ku a0) (Kv a0) s0 r:=by
 unfold Ii at h
 repeat' first|(replace h:=jx h;obtain⟨d,g,h⟩:=h;with_reducible first|replace g:=zc4 [] g|replace g:=Wy g|skip)|(replace h:=jz h;rcases h with⟨g,h⟩|⟨g,h⟩)|fail
 all_goals (cases h<;>(first|(refine zu ?_;simp only[go_sem,seval,Kx,Ku,zj,Kv, *]<;>rfl)|(refine yl ?_;simp only[go_sem,seval,Kx,Ku,zj,Kv, *]<;>rfl)))
theorem jtq (a0:Option (List qm)){s0 d}(h:aY (Ii a0) s0=Eh d):X pr (.loop Kx) (Ku a0 s0)=Eh (Kv a0 d):=y8 (jqq a0) (fun d hh=>by cases hh) h
def f142 (a0:Option (List qm)):Option ((Option (List qm))×Bool):=
 jw (aY (Ii a0) (Ek,0,I)) fun d31=>
 Eh (d31.1,d31.2.1)
theorem zb4 {a0 r}(h:f142 a0=Eh r):jy pr (X pr) 142 [sl 5 zw a0,.fn (.func 143) [] []]=Eh (sl 5 zw r.1,r.2):=by
 unfold f142 at h
 refine eh tA ?_
 repeat' first|(replace h:=jx h;obtain⟨d,g,h⟩:=h;with_reducible first|(replace g:=jtq a0 g;dsimp only[Ku,Kv,y7]at g h)|skip)|(replace h:=jz h;rcases h with⟨g,h⟩|⟨g,h⟩)|fail
 all_goals (cases h<;>(simp only[go_sem,seval,tA, *];exact⟨_,rfl⟩))
end Go.Z
namespace Go.Z
open Go Go.Abs Go.W
def lW:qe→qe
 | .seq a _=>a
 |x=>x
def gT:qe→qe
 | .seq _ b=>b
 |x=>x
def B9:qe→qe
 | .block _ b=>b
 |x=>x
def PQ:qe→qe
 | .rangeFunc _ _ a _=>a
 |x=>x
def Ky:qe→qe
 | .rangeFunc _ _ _ b=>b
 |x=>x
theorem qxq {n v h t}(hn:h.length=n)(hv:Abs.below n v=En)(hb:ko n h=En):y5 n v (h++t)=h:=by
 have ht:(h++t).take n=h:=by rw[←hn,List.take_left'];rfl
 unfold y5
 rw[ht,hv,hb]
 cases hc:Nat.ble (h++t).length n with
 |true=>
  have:=Nat.le_of_ble_eq_true hc
  rw[List.length_append,hn]at this
  have:t=[]:=List.eq_nil_of_length_eq_zero (by omega)
  subst this;simp
 |false=>rfl
theorem sR {n v h}(hn:h.length=n):y5 n v h=h:=by
 unfold y5
 rw[Nat.ble_eq_true_of_le (by omega)];rfl
section
variable {σ:Type}(r:qc)(u:qf)(H:σ→za)(step:σ→qm→Int→Option σ)
def oK (x:Int×σ):Option ((Int×σ)⊕(Int×σ)):=
 cond (decide (x.1<((u.uses.getD []).length:Int)))
  (jw (zn (u.uses.getD []) x.1) fun s=>jw (f72 r s.k) fun v=>jw (zn (r.ar.getD []) v) fun l=>jw (step x.2 l s.n) fun y=>Eh (.inl (j6 .i64 (x.1+1),y)))
  (Eh (.inr x))
def Fz (x:Int×σ):qg:=⟨[(0,.fn (.yield 1) [] [],I),(2,.ah (aR r),I),(7,sl 2 aV u.uses,I),(8,Lv u.uses,I),(9,Iv x.1,I)],H x.2⟩
def PR (x:Int×σ):qi×qg:=(.exit 0,⟨[(0,.fn (.yield 1) [] [],I),(2,.ah (aR r),I),(7,sl 2 aV u.uses,I),(8,Lv u.uses,I),(9,Iv x.1,I),(10,.bool I,I)],H x.2⟩)
theorem zem (hy:∀x l n y,step x l n=Eh y→jY (X pr) 1 [aL l,Iv n] (H x)=Eh (.bool En,H y))(hl:∀x,(H x).length=2)(x:Int×σ)(q)(h:oK r u step x=Eh q):yr pr Kz (Fz r u H) (PR r u H) x q:=by
 unfold oK at h
 rcases jz h with⟨h1,h⟩|⟨h1,h⟩
 ·obtain⟨s,h2,h⟩:=jx h
  obtain⟨v,h3,h⟩:=jx h
  obtain⟨l,h4,h⟩:=jx h
  obtain⟨y,h5,h⟩:=jx h
  cases h
  have g:=hy _ _ _ _ h5
  have w:=BU h3
  exact kN (bF:=Fz r u H (j6 .i64 (x.1+1),y)) (by simp only[go_sem,seval,Kz,Fz,h1,yx h2,w,yx h4,g]<;>rfl) (lj (by show(H y).length≤(H x.2).length;rw[hl,hl];exact Nat.le_refl _))
 ·cases h
  exact zu (by simp only[go_sem,seval,Kz,Fz,h1,PR]<;>rfl)
theorem jro {r:qc}{u:qf}{H:σ→za}{step:σ→qm→Int→Option σ}(hy:∀x l n y,step x l n=Eh y→jY (X pr) 1 [aL l,Iv n] (H x)=Eh (.bool En,H y))(hl:∀x,(H x).length=2){x0 d}(h:aY (oK r u step) (0,x0)=Eh d):ze pr (X pr) 210 [.fn (.yield 1) [] [],.ah (aU u),.ah (aR r)] (H x0)=Eh (.ay [],I,H d.2):=by
 have h1:X pr (.loop Kz) (Fz r u H (0,x0))=Eh (PR r u H d):=y8 (zem r u H step hy hl) (fun d=>by intro hh;cases hh) h
 rw[zf (show pr.bB 210=Eh tB from rfl) (by simp)]
 simp only[Fz,PR]at h1
 simp only[go_sem,seval,tB,h1]<;>rfl
end
def xa:qe:=B9 (gT (lW (gT (gT pR.body))))
def tC:qe:=PQ xa
def pS:qe:=Ky xa
theorem jmw:xa=.rangeFunc (.tmp 9) [10,11] tC pS:=rfl
def lX (r:qc)(u:qf):Env:=[(2,.ah (aR r),I),(3,.ah (aU u),I),(5,.ptr 0 0,I),(9,.fn (.func 210) [] [.ah (aU u),.ah (aR r)],I)]
def Cb (o:Option (List qm)):za:=[.cells [(sl 5 zw o,o.isSome)]]
def jI (r:qc)(u:qf)(pd:Option qi)(o:Option (List qm)):za:=[.cells [(sl 5 zw o,o.isSome)],.loop ⟨lX r u,[10,11],tC,pS,pd⟩]
def X3 (r:qc)(u:qf)(l:qm)(n:Int):Env:=(([10,11][1]),Iv n,I)::(([10,11][0]),aL l,I)::lX r u
def PS (r:qc)(u:qf)(l:qm)(n:Int):Env:=[(2,.ah (aR r),I),(3,.ah (aU u),I),(5,.ptr 0 0,I),(6,.ah (aL l),I)]
theorem zkg {r u l n}:vO (eX (lX r u)) [10,11] [aL l,Iv n]=Eh (X3 r u l n):=rfl
theorem jhn {r u l n H}:X pr tC ⟨X3 r u l n,H⟩=Eh (.normal,⟨PS r u l n,H⟩):=by
 simp only[go_sem,seval,tC,PQ,xa,B9,lW,gT,pR,X3,lX,List.getElem_cons_zero,List.getElem_cons_succ]<;>rfl
def yC (o:Option (List qm))(l:qm)(_:Int):Option (Option (List qm)):=bj o [l]
theorem jiu {r u l n pd o o'}(ho:yC o l n=Eh o'):∃e t,X pr pS ⟨PS r u l n,jI r u pd o⟩=Eh (.normal,⟨e,jI r u pd o'++t⟩):=by
 unfold yC at ho
 have hs:o'.isSome=En:=by
  cases o' with
  |some _=>rfl
  |none=>cases o<;>simp[bj,E1]at ho
 cases o with
 |none=>
  have ap:=fun(b:Nat) (h:za) (bb:Bool)=>qx8 (b:=b) (h:=h) (bb:=bb) ho rfl
  simp only[go_sem,seval,pS,Ky,xa,B9,lW,gT,pR,PS,jI,ap,Option.isSome_none,hs]
  exact⟨_,_,rfl⟩
 |some o=>
  have ap:=fun(b t:Nat) (h:za) (bb:Bool)=>qyq (b:=b) (t:=t) (h:=h) (bb:=bb) ho
  simp only[go_sem,seval,pS,Ky,xa,B9,lW,gT,pR,PS,jI,ap,Option.isSome_some,hs]
  exact⟨_,_,rfl⟩
theorem jcg {r u pd o}:ko 2 (jI r u pd o)=En:=by
 simp only[go_sem,seval,jI,ko,nF,pi,mK,lX]<;>rfl
theorem y75 {r u l n o o'}(ho:yC o l n=Eh o'):jY (X pr) 1 [aL l,Iv n] (jI r u Ek o)=Eh (.bool En,jI r u Ek o'):=by
 have g:∀o pd t,kc (jI r u pd o++t) 1=Eh (.loop ⟨lX r u,[10,11],tC,pS,pd⟩):=fun _ _ _=>rfl
 have g0:∀o pd,kc (jI r u pd o) 1=Eh (.loop ⟨lX r u,[10,11],tC,pS,pd⟩):=fun _ _=>rfl
 have st:∀o pd tD t,(jI r u pd o++t).set 1 (.loop ⟨lX r u,[10,11],tC,pS,tD⟩)=jI r u tD o++t:=fun _ _ _ _=>rfl
 have X4:∀o pd tD,(jI r u pd o).set 1 (.loop ⟨lX r u,[10,11],tC,pS,tD⟩)=jI r u tD o:=fun _ _ _=>rfl
 have hl:∀o pd,(jI r u pd o).length=2:=fun _ _=>rfl
 have ha:∀o pd v t,Abs.below 2 v=En→y5 2 v (jI r u pd o++t)=jI r u pd o:=fun _ _ _ _ hv=>qxq rfl hv jcg
 obtain⟨e,t,hx⟩:=jiu (r:=r) (u:=u) (n:=n) (pd:=Eh .normal) ho
 unfold jY
 simp only[g0,zkg,jhn,Eo,cT,X4,hl,hx,g,st]
 rw[ha _ _ _ _ rfl]
theorem jnc {r:qc}{u:qf}{o:Option (List qm)}{d}(h:aY (oK r u yC) (0,o)=Eh d):X pr xa ⟨lX r u,Cb o⟩=Eh (.normal,⟨lX r u,Cb d.2⟩):=by
 have h1:=jro (H:=jI r u Ek) (fun x l n y hs=>y75 hs) (fun _=>rfl) h
 have hb:∀o,ko 1 (Cb o)=En:=by
  intro o
  simp only[go_sem,seval,Cb,ko,nF,pi]<;>rfl
 rw[jmw,VG]
 unfold mN
 have hn:(kx tC&&kx pS)=En:=rfl
 have he:zc (lX r u) (.tmp 9)=Eh (.fn (.func 210) [] [.ah (aU u),.ah (aR r)]):=rfl
 have hl:∀o,(Cb o).length=1:=fun _=>rfl
 have rj:∀o,Cb o++[.loop ⟨lX r u,[10,11],tC,pS,Ek⟩]=jI r u Ek o:=fun _=>rfl
 have hg:∀o,kc (jI r u Ek o) 1=Eh (.loop ⟨lX r u,[10,11],tC,pS,Ek⟩):=fun _=>rfl
 have ht:∀o,(jI r u Ek o).take 1=Cb o:=fun _=>rfl
 simp only[hn,cT,he,hl,List.nil_append,List.cons_append,rj,h1,hg,ht,hb]
def zE:qe:=B9 (gT (lW (gT (gT iA.body))))
def tE:qe:=PQ zE
def tF:qe:=Ky zE
theorem jhx:zE=.rangeFunc (.tmp 11) [12,13] tE tF:=rfl
def lY (r:qc)(u:qf):Env:=[(2,.ah (aR r),I),(3,.ah (aU u),I),(5,.ah (.map 0),I),(11,.fn (.func 210) [] [.ah (aU u),.ah (aR r)],I)]
def Cc (o:List (List UInt8×Int)):za:=[.map (ej o)]
def jW (r:qc)(u:qf)(pd:Option qi)(o:List (List UInt8×Int)):za:=[.map (ej o),.loop ⟨lY r u,[12,13],tE,tF,pd⟩]
def X5 (r:qc)(u:qf)(l:qm)(n:Int):Env:=(([12,13][1]),Iv n,I)::(([12,13][0]),aL l,I)::lY r u
def X6 (r:qc)(u:qf)(l:qm)(n:Int):Env:=[(2,.ah (aR r),I),(3,.ah (aU u),I),(5,.ah (.map 0),I),(6,.ah (aL l),I),(7,Iv n,I)]
theorem j69 {r u l n}:vO (eX (lY r u)) [12,13] [aL l,Iv n]=Eh (X5 r u l n):=rfl
theorem jcb {r u l n H}:X pr tE ⟨X5 r u l n,H⟩=Eh (.normal,⟨X6 r u l n,H⟩):=by
 simp only[go_sem,seval,tE,PQ,zE,B9,lW,gT,iA,X5,lY,List.getElem_cons_zero,List.getElem_cons_succ]<;>rfl
def wu (o:List (List UInt8×Int))(l:qm)(n:Int):Option (List (List UInt8×Int)):=OY o l.kind (j6 .i64 (mC o l.kind+n))
theorem jbz {r u l n pd o o'}(ho:wu o l n=Eh o'):∃e t,X pr tF ⟨X6 r u l n,jW r u pd o⟩=Eh (.normal,⟨e,jW r u pd o'++t⟩):=by
 unfold wu at ho
 simp only[go_sem,seval,tF,Ky,zE,B9,lW,gT,iA,X6,jW,jlj,jtt ho]
 exact⟨_,_,rfl⟩
theorem q86 {r u pd o}:ko 2 (jW r u pd o)=En:=by
 simp only[go_sem,seval,jW,ko,nF,pi,mK,lY]<;>rfl
theorem zd5 {r u l n o o'}(ho:wu o l n=Eh o'):jY (X pr) 1 [aL l,Iv n] (jW r u Ek o)=Eh (.bool En,jW r u Ek o'):=by
 have g:∀o pd t,kc (jW r u pd o++t) 1=Eh (.loop ⟨lY r u,[12,13],tE,tF,pd⟩):=fun _ _ _=>rfl
 have g0:∀o pd,kc (jW r u pd o) 1=Eh (.loop ⟨lY r u,[12,13],tE,tF,pd⟩):=fun _ _=>rfl
 have st:∀o pd tD t,(jW r u pd o++t).set 1 (.loop ⟨lY r u,[12,13],tE,tF,tD⟩)=jW r u tD o++t:=fun _ _ _ _=>rfl
 have X4:∀o pd tD,(jW r u pd o).set 1 (.loop ⟨lY r u,[12,13],tE,tF,tD⟩)=jW r u tD o:=fun _ _ _=>rfl
 have hl:∀o pd,(jW r u pd o).length=2:=fun _ _=>rfl
 have ha:∀o pd v t,Abs.below 2 v=En→y5 2 v (jW r u pd o++t)=jW r u pd o:=fun _ _ _ _ hv=>qxq rfl hv q86
 obtain⟨e,t,hx⟩:=jbz (r:=r) (u:=u) (n:=n) (pd:=Eh .normal) ho
 unfold jY
 simp only[g0,j69,jcb,Eo,cT,X4,hl,hx,g,st]
 rw[ha _ _ _ _ rfl]
theorem jkv {r:qc}{u:qf}{o:List (List UInt8×Int)}{d}(h:aY (oK r u wu) (0,o)=Eh d):X pr zE ⟨lY r u,Cc o⟩=Eh (.normal,⟨lY r u,Cc d.2⟩):=by
 have h1:=jro (H:=jW r u Ek) (fun x l n y hs=>zd5 hs) (fun _=>rfl) h
 have hb:∀o,ko 1 (Cc o)=En:=by
  intro o
  simp only[go_sem,seval,Cc,ko,nF,pi]<;>rfl
 rw[jhx,VG]
 unfold mN
 have hn:(kx tE&&kx tF)=En:=rfl
 have he:zc (lY r u) (.tmp 11)=Eh (.fn (.func 210) [] [.ah (aU u),.ah (aR r)]):=rfl
 have hl:∀o,(Cc o).length=1:=fun _=>rfl
 have rj:∀o,Cc o++[.loop ⟨lY r u,[12,13],tE,tF,Ek⟩]=jW r u Ek o:=fun _=>rfl
 have hg:∀o,kc (jW r u Ek o) 1=Eh (.loop ⟨lY r u,[12,13],tE,tF,Ek⟩):=fun _=>rfl
 have ht:∀o,(jW r u Ek o).take 1=Cc o:=fun _=>rfl
 simp only[hn,cT,he,hl,List.nil_append,List.cons_append,rj,h1,hg,ht,hb]
end Go.Z
namespace Go.Z
open Go Go.Abs Go.W
theorem jwu {hp r u}:ze pr (X pr) 139 [aR r,aU u] hp=Eh (.fn (.func 210) [] [.ah (aU u),.ah (aR r)],I,hp):=by
 rw[zf (show pr.bB 139=Eh tG from rfl) (by simp)]
 simp only[go_sem,seval,tG]<;>rfl
def f141 (r:qc)(u:qf):Option Bool:=
 jw (aY (oK r u wu) (0,[])) fun d=>jw (f134 r u) fun doc=>jw (Ig doc.aI d.2) fun b=>Eh (!b)
def jcn:qe:=lW iA.body
def jcz:qe:=lW (gT iA.body)
def jc5:qe:=lW (lW (gT (gT iA.body)))
def jdf:qe:=gT (gT (gT iA.body))
theorem zgn {r u q}(h:f141 r u=Eh q):jy pr (X pr) 141 [aR r,aU u]=Eh (.bool q,I):=by
 unfold f141 at h
 obtain⟨d,h1,h⟩:=jx h
 obtain⟨doc,h2,h⟩:=jx h
 obtain⟨b,h3,h⟩:=jx h
 cases h
 have hx:X pr zE ⟨lY r u,[.map []]⟩=Eh (.normal,⟨lY r u,[.map (ej d.2)]⟩):=jkv h1
 have w1:=jwu (hp:=[.map []]) (r:=r) (u:=u)
 have ha:y5 1 (.fn (.func 210) [] [.ah (aU u),.ah (aR r)]) ([.map []]:za)=[.map []]:=sR rfl
 have w2:jy pr (X pr) 134 [aR r,aU u]=Eh (aD doc,I):=PH h2
 have w3:=j7l h3
 have hb:y5 1 (.bool b) ([.map (ej d.2)]:za)=[.map (ej d.2)]:=sR rfl
 have this:∃hh,ze pr (X pr) 141 [aR r,aU u] []=Eh (.bool (!b),I,hh):=by
  rw[zf (show pr.bB 141=Eh ⟨27,.seq jcn (.seq jcz (.seq (.seq jc5 (.block 0 zE)) jdf)),[.tmp 4]⟩from rfl) (by simp)]
  simp only[lY]at hx
  simp only[go_sem,seval,jcn,jcz,jc5,jdf,lW,gT,iA,w1,ha,w2,w3,hb,hx]
  exact⟨_,rfl⟩
 obtain⟨hh,this⟩:=this
 exact kr rfl this (by first|rfl|simp only[go_sem,seval]) (by first|rfl|simp only[go_sem,seval])
def f75 (r:qc)(u:qf):Option Int:=
 jw (aY (oK r u yC) (0,Ek)) fun d=>jw (f53 u.aq 21) fun e1=>jw (f140 r u) fun lt=>jw (f53 (!decide (u.version=lt)) 32) fun e2=>jw (f141 r u) fun c=>jw (f53 (!c) 20) fun e3=>
 jw (f74 r u) fun m=>jw (f53 (decide (0<((m.1.getD []).length:Int))) 31) fun e4=>jw (f142 d.2) fun hd=>jw (f53 (decide (0<((hd.1.getD []).length:Int))) 34) fun e5=>f51 (Eh [e1,e2,e3,e4,e5])
def jlb:qe:=lW pR.body
def jk8:qe:=lW (gT pR.body)
def jld:qe:=lW (lW (gT (gT pR.body)))
def jlr:qe:=gT (gT (gT pR.body))
theorem W75 {r u q}(h:f75 r u=Eh q):jy pr (X pr) 75 [aR r,aU u]=Eh (Iv q,I):=by
 unfold f75 at h
 obtain⟨d,h1,h⟩:=jx h
 obtain⟨e1,g1,h⟩:=jx h
 obtain⟨lt,h2,h⟩:=jx h
 obtain⟨e2,g2,h⟩:=jx h
 obtain⟨c,h3,h⟩:=jx h
 obtain⟨e3,g3,h⟩:=jx h
 obtain⟨m,h4,h⟩:=jx h
 obtain⟨e4,g4,h⟩:=jx h
 obtain⟨hd,h5,h⟩:=jx h
 obtain⟨e5,g5,h⟩:=jx h
 have hx:X pr xa ⟨lX r u,[.cells [(Nl,I)]]⟩=Eh (.normal,⟨lX r u,[.cells [(sl 5 zw d.2,d.2.isSome)]]⟩):=jnc h1
 have w1:=jwu (hp:=[.cells [(Nl,I)]]) (r:=r) (u:=u)
 have ha:y5 1 (.fn (.func 210) [] [.ah (aU u),.ah (aR r)]) ([.cells [(Nl,I)]]:za)=[.cells [(Nl,I)]]:=sR rfl
 have k1:=fC g1
 have w2:jy pr (X pr) 140 [aR r,aU u]=Eh (Iv lt,I):=jsn h2
 have k2:=fC g2
 have w3:=zgn h3
 have k3:=fC g3
 have w4:jy pr (X pr) 74 [aR r,aU u]=Eh (sl 1 zk m.1,m.2):=W74 h4
 have k4:=fC g4
 have w5:=zb4 h5
 have k5:=fC g5
 have k6:jy pr (X pr) 51 [.list I 1 [Iv e1,Iv e2,Iv e3,Iv e4,Iv e5]]=Eh (Iv q,I):=lV h
 have this:∃hh,ze pr (X pr) 75 [aR r,aU u] []=Eh (Iv q,I,hh):=by
  rw[zf (show pr.bB 75=Eh ⟨44,.seq jlb (.seq jk8 (.seq (.seq jld (.block 0 xa)) jlr)),[.tmp 4]⟩from rfl) (by simp)]
  simp only[lX]at hx
  simp only[go_sem,seval,jlb,jk8,jld,jlr,lW,gT,pR,w1,ha,k1,w2,k2,w3,k3,w4,k4,w5,k5,k6,hx]
  exact⟨_,rfl⟩
 obtain⟨hh,this⟩:=this
 exact kr rfl this (by first|rfl|simp only[go_sem,seval]) (by first|rfl|simp only[go_sem,seval])
end Go.Z
end
