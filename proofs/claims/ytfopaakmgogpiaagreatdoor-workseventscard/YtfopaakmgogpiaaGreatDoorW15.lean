/- Chapter 10. -/
import Derived.Test.YtfopaakmgogpiaaGreatDoorW6
import Derived.Test.YtfopaakmgogpiaaGreatDoorCA
import Derived.Test.YtfopaakmgogpiaaGreatDoorW4
import Derived.Test.YtfopaakmgogpiaaGreatDoorAbsL
set_option linter.unusedVariables false
set_option linter.unusedSimpArgs false
set_option maxRecDepth 100000
set_option maxHeartbeats 4000000
noncomputable section
open Bool renaming false→I,true→E0
open Option renaming some→Ef,none→En,isNone_none→E1
namespace Go.Z
open Go Go.Abs Go.W
def WH (a0:qm)(e0:List (List UInt8×Int)):Option Bool:=
 Ef (decide ((l8 e0 a0.k)<a0.n))
theorem j0w {a0:qm}{e0:List (List UInt8×Int)}{r}(h:WH a0 e0=Ef r):zf pr (X pr) 211 [aN a0,.ah (.map 0)] [.map (en e0)]=Ef (.bool r,I,[.map (en e0)]):=by
 unfold WH at h
 have hr:decide ((l8 e0 a0.k)<a0.n)=r:=Ef.inj h
 subst hr
 rw[zd (show pr.bj 211=Ef sQ from rfl) (by simp)]
 simp only[go_sem,seval,sQ,jkc]<;>rfl
def N8 (a0:Option (List qm))(e0:List (List UInt8×Int))(s0:Int):Option (Int⊕(Int⊕Int)):=
 cond (decide (s0<((a0.getD []).length:Int)))
  (jw (zo (a0.getD []) s0) fun dG=>
  jw (WH dG e0) fun dv=>
  cond dv
   (Ef (.inr (.inl s0)))
   (Ef (.inl (j6 .i64 (s0+1)))))
  (Ef (.inr (.inr s0)))
def I0 (a0:Option (List qm))(e0:List (List UInt8×Int))(s0:Int):qg:=⟨[(0,sl 2 aS a0,I),(1,.fn (.func 211) [] [.ah (.map 0)],I),(7,Lv a0,I),(8,Iv s0,I)],[.map (en e0)]⟩
def I1 (a0:Option (List qm))(e0:List (List UInt8×Int)):Int⊕Int→qo×qg
 | .inl d=>(.ret,⟨[(4,Iv d,I)],[.map (en e0)]⟩)
 | .inr d=>(.exit 0,⟨[(0,sl 2 aS a0,I),(1,.fn (.func 211) [] [.ah (.map 0)],I),(7,Lv a0,I),(8,Iv d,I),(9,.bool I,I)],[.map (en e0)]⟩)
theorem jk6 (a0:Option (List qm))(e0:List (List UInt8×Int))(s0:Int)(r)(h:N8 a0 e0 s0=Ef r):yp pr lO (I0 a0 e0) (I1 a0 e0) s0 r:=by
 unfold N8 at h
 repeat' first|(replace h:=jx h;obtain⟨d,g,h⟩:=h;with_reducible first|replace g:=j0w g|skip)|(replace h:=jz h;rcases h with⟨g,h⟩|⟨g,h⟩)|fail
 all_goals (cases h<;>(first|(refine zw ?_;simp only[go_sem,seval,lO,I0,zn,I1, *]<;>rfl)|(refine yj ?_;simp only[go_sem,seval,lO,I0,zn,I1, *]<;>rfl)))
theorem jm1 (a0:Option (List qm))(e0:List (List UInt8×Int)){s0:Int}{d}(h:bf (N8 a0 e0) s0=Ef d):X pr (.loop lO) (I0 a0 e0 s0)=Ef (I1 a0 e0 d):=y7 (jk6 a0 e0) (fun d=>by rcases d with d|d<;>(intro hh;cases hh)) h
def G0 (a0:Option (List qm))(e0:List (List UInt8×Int)):Option Int:=
 jw (bf (N8 a0 e0) 0) fun d19=>match d19 with
  | .inl d21=>
   Ef d21
  | .inr d22=>
   Ef (-1)
theorem j29 {a0:Option (List qm)}{e0:List (List UInt8×Int)}{r}(h:G0 a0 e0=Ef r):zf pr (X pr) 235 [sl 2 aS a0,.fn (.func 211) [] [.ah (.map 0)]] [.map (en e0)]=Ef (Iv r,I,[.map (en e0)]):=by
 unfold G0 at h
 rw[zd (show pr.bj 235=Ef iq from rfl) (by simp)]
 repeat' first|(replace h:=jx h;obtain⟨d,g,h⟩:=h;with_reducible first|(replace g:=jm1 a0 e0 g;rcases d with d|d<;>dsimp only[I0,I1,y9]at g h)|skip)|(replace h:=jz h;rcases h with⟨g,h⟩|⟨g,h⟩)|fail
 all_goals (cases h<;>(simp only[go_sem,seval,iq, *]<;>rfl))
def GZ (a0:Option (List qm))(e0:List (List UInt8×Int)):Option Bool:=
 jw (G0 a0 e0) fun v1=>
 Ef (decide (0≤v1))
theorem j1k {a0:Option (List qm)}{e0:List (List UInt8×Int)}{r}(h:GZ a0 e0=Ef r):zf pr (X pr) 168 [sl 2 aS a0,.fn (.func 211) [] [.ah (.map 0)]] [.map (en e0)]=Ef (.bool r,I,[.map (en e0)]):=by
 unfold GZ at h
 obtain⟨v1,h2,h⟩:=jx h
 have rM:zf pr (X pr) 235 [sl 2 aS a0,.fn (.func 211) [] [.ah (.map 0)]] [.map (en e0)]=Ef (Iv v1,I,[.map (en e0)]):=j29 h2
 have hr:decide (0≤v1)=r:=Ef.inj h
 subst hr
 rw[zd (show pr.bj 168=Ef kH from rfl) (by simp)]
 simp only[go_sem,seval,kH,rM]<;>rfl
def f143 (a0:qk):Option Bool:=
 Ef a0.held
theorem zhl (hp:j8){a0:qk}{r}(h:f143 a0=Ef r):zf pr (X pr) 143 [aL a0] hp=Ef (.bool r,I,hp):=by
 unfold f143 at h
 have hr:a0.held=r:=Ef.inj h
 subst hr
 rw[zd (show pr.bj 143=Ef sR from rfl) (by simp)]
 simp only[go_sem,seval,sR]<;>rfl
def G1 (a0:Option (List qk))(s0:(Option (List qk))×Int×Bool):Option (((Option (List qk))×Int×Bool)⊕(((Option (List qk))×Bool×Int))):=
 cond (decide (s0.2.1<((a0.getD []).length:Int)))
  (jw (zo (a0.getD []) s0.2.1) fun v20=>
  jw (f143 v20) fun ej=>
  cond ej
   (cond s0.2.2
    (jw (bh s0.1 [v20]) fun fC=>
    Ef (.inl (fC,j6 .i64 (s0.2.1+1),E0)))
    (cond s0.1.isNone
     (jw (bh s0.1 [v20]) fun hO=>
     Ef (.inl (hO,j6 .i64 (s0.2.1+1),E0)))
     (En)))
   (Ef (.inl (s0.1,j6 .i64 (s0.2.1+1),s0.2.2))))
  (Ef (.inr (s0.1,s0.2.2,s0.2.1)))
def I2 (a0:Option (List qk))(s0:(Option (List qk))×Int×Bool):qg:=⟨[(1,.fn (.func 143) [] [],I),(5,sl 5 z7 s0.1,s0.2.2),(8,sl 5 z7 a0,I),(9,Lv a0,I),(10,Iv s0.2.1,I)],[]⟩
def I4 (a0:Option (List qk))(d:((Option (List qk))×Bool×Int)):qo×qg:=(.exit 0,⟨[(1,.fn (.func 143) [] [],I),(5,sl 5 z7 d.1,d.2.1),(8,sl 5 z7 a0,I),(9,Lv a0,I),(10,Iv d.2.2,I),(11,.bool I,I)],[]⟩)
theorem jts (a0:Option (List qk))(s0:(Option (List qk))×Int×Bool)(r)(h:G1 a0 s0=Ef r):yp pr I5 (I2 a0) (I4 a0) s0 r:=by
 unfold G1 at h
 repeat' first|(replace h:=jx h;obtain⟨d,g,h⟩:=h;with_reducible first|replace g:=zhl [] g|replace g:=Ng g|skip)|(replace h:=jz h;rcases h with⟨g,h⟩|⟨g,h⟩)|fail
 all_goals (cases h<;>(first|(refine zw ?_;simp only[go_sem,seval,I5,I2,zn,I4, *]<;>rfl)|(refine yj ?_;simp only[go_sem,seval,I5,I2,zn,I4, *]<;>rfl)))
theorem jsh (a0:Option (List qk)){s0:(Option (List qk))×Int×Bool}{d}(h:bf (G1 a0) s0=Ef d):X pr (.loop I5) (I2 a0 s0)=Ef (I4 a0 d):=y7 (jts a0) (fun d hh=>by cases hh) h
def f142 (a0:Option (List qk)):Option ((Option (List qk))×Bool):=
 jw (bf (G1 a0) (En,0,I)) fun d31=>
 Ef (d31.1,d31.2.1)
theorem zb1 {a0:Option (List qk)}{r}(h:f142 a0=Ef r):jy pr (X pr) 142 [sl 5 z7 a0,.fn (.func 143) [] []]=Ef (sl 5 z7 r.1,r.2):=by
 unfold f142 at h
 refine fk sS ?_
 repeat' first|(replace h:=jx h;obtain⟨d,g,h⟩:=h;with_reducible first|(replace g:=jsh a0 g;dsimp only[I2,I4,y9]at g h)|skip)|(replace h:=jz h;rcases h with⟨g,h⟩|⟨g,h⟩)|fail
 all_goals (cases h<;>(simp only[go_sem,seval,sS, *];exact⟨_,rfl⟩))
end Go.Z
namespace Go.Z
open Go Go.Abs Go.W
def lQ:qe→qe
 | .seq a _=>a
 |x=>x
def gV:qe→qe
 | .seq _ b=>b
 |x=>x
def Bq:qe→qe
 | .block _ b=>b
 |x=>x
def N9:qe→qe
 | .rangeFunc _ _ a _=>a
 |x=>x
def I6:qe→qe
 | .rangeFunc _ _ _ b=>b
 |x=>x
theorem qxo {n:Nat}{v:qa}{h t:j8}(hn:h.length=n)(hv:Abs.below n v=E0)(hb:kh n h=E0):yi n v (h++t)=h:=by
 have ht:(h++t).take n=h:=by rw[←hn,List.take_left'];rfl
 unfold yi
 rw[ht,hv,hb]
 cases hc:Nat.ble (h++t).length n with
 |true=>
  have:=Nat.le_of_ble_eq_true hc
  rw[List.length_append,hn]at this
  have:t=[]:=List.eq_nil_of_length_eq_zero (by omega)
  subst this;simp
 |false=>rfl
theorem kW {n:Nat}{v:qa}{h:j8}(hn:h.length=n):yi n v h=h:=by
 unfold yi
 rw[Nat.ble_eq_true_of_le (by omega)];rfl
section
variable {σ:Type}(r:qc)(u:qf)(H:σ→j8)(step:σ→qk→Int→Option σ)
def oy (x:Int×σ):Option ((Int×σ)⊕(Int×σ)):=
 cond (decide (x.1<((u.uses.getD []).length:Int)))
  (jw (zo (u.uses.getD []) x.1) fun s=>jw (f72 r s.k) fun v=>jw (zo (r.au.getD []) v) fun l=>jw (step x.2 l s.n) fun y=>Ef (.inl (j6 .i64 (x.1+1),y)))
  (Ef (.inr x))
def Et (x:Int×σ):qg:=⟨[(0,.fn (.yield 1) [] [],I),(2,.ah (aR r),I),(7,sl 2 aS u.uses,I),(8,Lv u.uses,I),(9,Iv x.1,I)],H x.2⟩
def Oa (x:Int×σ):qo×qg:=(.exit 0,⟨[(0,.fn (.yield 1) [] [],I),(2,.ah (aR r),I),(7,sl 2 aS u.uses,I),(8,Lv u.uses,I),(9,Iv x.1,I),(10,.bool I,I)],H x.2⟩)
theorem j9z (hy:∀x l n y,step x l n=Ef y→jO (X pr) 1 [aL l,Iv n] (H x)=Ef (.bool E0,H y))(hl:∀x,(H x).length=2)(x:Int×σ)(q)(h:oy r u step x=Ef q):yp pr I7 (Et r u H) (Oa r u H) x q:=by
 unfold oy at h
 rcases jz h with⟨h1,h⟩|⟨h1,h⟩
 ·obtain⟨s,h2,h⟩:=jx h
  obtain⟨v,h3,h⟩:=jx h
  obtain⟨l,h4,h⟩:=jx h
  obtain⟨y,h5,h⟩:=jx h
  cases h
  have g:=hy _ _ _ _ h5
  have w:=Ep h3
  exact vG (bL:=Et r u H (j6 .i64 (x.1+1),y)) (by simp only[go_sem,seval,I7,Et,h1,kc h2,w,kc h4,g]<;>rfl) (Ap (by show(H y).length≤(H x.2).length;rw[hl,hl];exact Nat.le_refl _))
 ·cases h
  exact zw (by simp only[go_sem,seval,I7,Et,h1,Oa]<;>rfl)
theorem jup {r:qc}{u:qf}{H:σ→j8}{step:σ→qk→Int→Option σ}(hy:∀x l n y,step x l n=Ef y→jO (X pr) 1 [aL l,Iv n] (H x)=Ef (.bool E0,H y))(hl:∀x,(H x).length=2){x0:σ}{d}(h:bf (oy r u step) (0,x0)=Ef d):zf pr (X pr) 210 [.fn (.yield 1) [] [],.ah (aU u),.ah (aR r)] (H x0)=Ef (.aB [],I,H d.2):=by
 have h1:X pr (.loop I7) (Et r u H (0,x0))=Ef (Oa r u H d):=y7 (j9z r u H step hy hl) (fun d=>by intro hh;cases hh) h
 rw[zd (show pr.bj 210=Ef sT from rfl) (by simp)]
 simp only[Et,Oa]at h1
 simp only[go_sem,seval,sT,h1]<;>rfl
end
def wC:qe:=Bq (gV (lQ (gV (gV pA.body))))
def sU:qe:=N9 wC
def pB:qe:=I6 wC
theorem jmu:wC=.rangeFunc (.tmp 9) [10,11] sU pB:=rfl
def lR (r:qc)(u:qf):Env:=[(2,.ah (aR r),I),(3,.ah (aU u),I),(5,.ptr 0 0,I),(9,.fn (.func 210) [] [.ah (aU u),.ah (aR r)],I)]
def Br (o:Option (List qk)):j8:=[.cells [(sl 5 z7 o,o.isSome)]]
def iZ (r:qc)(u:qf)(pd:Option qo)(o:Option (List qk)):j8:=[.cells [(sl 5 z7 o,o.isSome)],.loop ⟨lR r u,[10,11],sU,pB,pd⟩]
def WI (r:qc)(u:qf)(l:qk)(n:Int):Env:=(([10,11][1]),Iv n,I)::(([10,11][0]),aL l,I)::lR r u
def Ob (r:qc)(u:qf)(l:qk)(n:Int):Env:=[(2,.ah (aR r),I),(3,.ah (aU u),I),(5,.ptr 0 0,I),(6,.ah (aL l),I)]
theorem zhq {r:qc}{u:qf}{l:qk}{n:Int}:vi (eS (lR r u)) [10,11] [aL l,Iv n]=Ef (WI r u l n):=rfl
theorem jdm {r:qc}{u:qf}{l:qk}{n:Int}{H:j8}:X pr sU ⟨WI r u l n,H⟩=Ef (.normal,⟨Ob r u l n,H⟩):=by
 simp only[go_sem,seval,sU,N9,wC,Bq,lQ,gV,pA,WI,lR,List.getElem_cons_zero,List.getElem_cons_succ]<;>rfl
def xG (o:Option (List qk))(l:qk)(_:Int):Option (Option (List qk)):=bh o [l]
theorem jhr {r:qc}{u:qf}{l:qk}{n:Int}{pd:Option qo}{o o':Option (List qk)}(ho:xG o l n=Ef o'):∃e t,X pr pB ⟨Ob r u l n,iZ r u pd o⟩=Ef (.normal,⟨e,iZ r u pd o'++t⟩):=by
 unfold xG at ho
 have hs:o'.isSome=E0:=by
  cases o' with
  |some _=>rfl
  |none=>cases o<;>simp[bh,D1]at ho
 cases o with
 |none=>
  have ap:=fun(b:Nat) (h:j8) (bb:Bool)=>qwl (b:=b) (h:=h) (bb:=bb) ho rfl
  simp only[go_sem,seval,pB,I6,wC,Bq,lQ,gV,pA,Ob,iZ,ap,Option.isSome_none,hs]
  exact⟨_,_,rfl⟩
 |some o=>
  have ap:=fun(b t:Nat) (h:j8) (bb:Bool)=>qwn (b:=b) (t:=t) (h:=h) (bb:=bb) ho
  simp only[go_sem,seval,pB,I6,wC,Bq,lQ,gV,pA,Ob,iZ,ap,Option.isSome_some,hs]
  exact⟨_,_,rfl⟩
theorem jb2 {r:qc}{u:qf}{pd:Option qo}{o:Option (List qk)}:kh 2 (iZ r u pd o)=E0:=by
 simp only[go_sem,seval,iZ,kh,oS,oR,mc,lR]<;>rfl
theorem y75 {r:qc}{u:qf}{l:qk}{n:Int}{o o':Option (List qk)}(ho:xG o l n=Ef o'):jO (X pr) 1 [aL l,Iv n] (iZ r u En o)=Ef (.bool E0,iZ r u En o'):=by
 have g:∀o pd t,y5 (iZ r u pd o++t) 1=Ef (.loop ⟨lR r u,[10,11],sU,pB,pd⟩):=fun _ _ _=>rfl
 have g0:∀o pd,y5 (iZ r u pd o) 1=Ef (.loop ⟨lR r u,[10,11],sU,pB,pd⟩):=fun _ _=>rfl
 have st:∀o pd sV t,(iZ r u pd o++t).set 1 (.loop ⟨lR r u,[10,11],sU,pB,sV⟩)=iZ r u sV o++t:=fun _ _ _ _=>rfl
 have WJ:∀o pd sV,(iZ r u pd o).set 1 (.loop ⟨lR r u,[10,11],sU,pB,sV⟩)=iZ r u sV o:=fun _ _ _=>rfl
 have hl:∀o pd,(iZ r u pd o).length=2:=fun _ _=>rfl
 have ha:∀o pd v t,Abs.below 2 v=E0→yi 2 v (iZ r u pd o++t)=iZ r u pd o:=fun _ _ _ _ hv=>qxo rfl hv jb2
 obtain⟨e,t,hx⟩:=jhr (r:=r) (u:=u) (n:=n) (pd:=Ef .normal) ho
 unfold jO
 simp only[g0,zhq,jdm,E1,cT,WJ,hl,hx,g,st]
 rw[ha _ _ _ _ rfl]
theorem jma {r:qc}{u:qf}{o:Option (List qk)}{d}(h:bf (oy r u xG) (0,o)=Ef d):X pr wC ⟨lR r u,Br o⟩=Ef (.normal,⟨lR r u,Br d.2⟩):=by
 have h1:=jup (H:=iZ r u En) (fun x l n y hs=>y75 hs) (fun _=>rfl) h
 have hb:∀o,kh 1 (Br o)=E0:=by
  intro o
  simp only[go_sem,seval,Br,kh,oS,oR]<;>rfl
 rw[jmu,T5]
 unfold mr
 have hn:(km sU&&km pB)=E0:=rfl
 have he:zc (lR r u) (.tmp 9)=Ef (.fn (.func 210) [] [.ah (aU u),.ah (aR r)]):=rfl
 have hl:∀o,(Br o).length=1:=fun _=>rfl
 have qH:∀o,Br o++[.loop ⟨lR r u,[10,11],sU,pB,En⟩]=iZ r u En o:=fun _=>rfl
 have hg:∀o,y5 (iZ r u En o) 1=Ef (.loop ⟨lR r u,[10,11],sU,pB,En⟩):=fun _=>rfl
 have ht:∀o,(iZ r u En o).take 1=Br o:=fun _=>rfl
 simp only[hn,cT,he,hl,List.nil_append,List.cons_append,qH,h1,hg,ht,hb]
def yG:qe:=Bq (gV (lQ (gV (gV iz.body))))
def sW:qe:=N9 yG
def sX:qe:=I6 yG
theorem jhu:yG=.rangeFunc (.tmp 11) [12,13] sW sX:=rfl
def lS (r:qc)(u:qf):Env:=[(2,.ah (aR r),I),(3,.ah (aU u),I),(5,.ah (.map 0),I),(11,.fn (.func 210) [] [.ah (aU u),.ah (aR r)],I)]
def Bs (o:List (List UInt8×Int)):j8:=[.map (en o)]
def jN (r:qc)(u:qf)(pd:Option qo)(o:List (List UInt8×Int)):j8:=[.map (en o),.loop ⟨lS r u,[12,13],sW,sX,pd⟩]
def WK (r:qc)(u:qf)(l:qk)(n:Int):Env:=(([12,13][1]),Iv n,I)::(([12,13][0]),aL l,I)::lS r u
def WL (r:qc)(u:qf)(l:qk)(n:Int):Env:=[(2,.ah (aR r),I),(3,.ah (aU u),I),(5,.ah (.map 0),I),(6,.ah (aL l),I),(7,Iv n,I)]
theorem j0r {r:qc}{u:qf}{l:qk}{n:Int}:vi (eS (lS r u)) [12,13] [aL l,Iv n]=Ef (WK r u l n):=rfl
theorem jdi {r:qc}{u:qf}{l:qk}{n:Int}{H:j8}:X pr sW ⟨WK r u l n,H⟩=Ef (.normal,⟨WL r u l n,H⟩):=by
 simp only[go_sem,seval,sW,N9,yG,Bq,lQ,gV,iz,WK,lS,List.getElem_cons_zero,List.getElem_cons_succ]<;>rfl
def vJ (o:List (List UInt8×Int))(l:qk)(n:Int):Option (List (List UInt8×Int)):=Nk o l.kind (j6 .i64 (l8 o l.kind+n))
theorem jbi {r:qc}{u:qf}{l:qk}{n:Int}{pd:Option qo}{o o':List (List UInt8×Int)}(ho:vJ o l n=Ef o'):∃e t,X pr sX ⟨WL r u l n,jN r u pd o⟩=Ef (.normal,⟨e,jN r u pd o'++t⟩):=by
 unfold vJ at ho
 simp only[go_sem,seval,sX,I6,yG,Bq,lQ,gV,iz,WL,jN,jkc,jp3 ho]
 exact⟨_,_,rfl⟩
theorem jal {r:qc}{u:qf}{pd:Option qo}{o:List (List UInt8×Int)}:kh 2 (jN r u pd o)=E0:=by
 simp only[go_sem,seval,jN,kh,oS,oR,mc,lS]<;>rfl
theorem zdv {r:qc}{u:qf}{l:qk}{n:Int}{o o':List (List UInt8×Int)}(ho:vJ o l n=Ef o'):jO (X pr) 1 [aL l,Iv n] (jN r u En o)=Ef (.bool E0,jN r u En o'):=by
 have g:∀o pd t,y5 (jN r u pd o++t) 1=Ef (.loop ⟨lS r u,[12,13],sW,sX,pd⟩):=fun _ _ _=>rfl
 have g0:∀o pd,y5 (jN r u pd o) 1=Ef (.loop ⟨lS r u,[12,13],sW,sX,pd⟩):=fun _ _=>rfl
 have st:∀o pd sV t,(jN r u pd o++t).set 1 (.loop ⟨lS r u,[12,13],sW,sX,sV⟩)=jN r u sV o++t:=fun _ _ _ _=>rfl
 have WJ:∀o pd sV,(jN r u pd o).set 1 (.loop ⟨lS r u,[12,13],sW,sX,sV⟩)=jN r u sV o:=fun _ _ _=>rfl
 have hl:∀o pd,(jN r u pd o).length=2:=fun _ _=>rfl
 have ha:∀o pd v t,Abs.below 2 v=E0→yi 2 v (jN r u pd o++t)=jN r u pd o:=fun _ _ _ _ hv=>qxo rfl hv jal
 obtain⟨e,t,hx⟩:=jbi (r:=r) (u:=u) (n:=n) (pd:=Ef .normal) ho
 unfold jO
 simp only[g0,j0r,jdi,E1,cT,WJ,hl,hx,g,st]
 rw[ha _ _ _ _ rfl]
theorem jg7 {r:qc}{u:qf}{o:List (List UInt8×Int)}{d}(h:bf (oy r u vJ) (0,o)=Ef d):X pr yG ⟨lS r u,Bs o⟩=Ef (.normal,⟨lS r u,Bs d.2⟩):=by
 have h1:=jup (H:=jN r u En) (fun x l n y hs=>zdv hs) (fun _=>rfl) h
 have hb:∀o,kh 1 (Bs o)=E0:=by
  intro o
  simp only[go_sem,seval,Bs,kh,oS,oR]<;>rfl
 rw[jhu,T5]
 unfold mr
 have hn:(km sW&&km sX)=E0:=rfl
 have he:zc (lS r u) (.tmp 11)=Ef (.fn (.func 210) [] [.ah (aU u),.ah (aR r)]):=rfl
 have hl:∀o,(Bs o).length=1:=fun _=>rfl
 have qH:∀o,Bs o++[.loop ⟨lS r u,[12,13],sW,sX,En⟩]=jN r u En o:=fun _=>rfl
 have hg:∀o,y5 (jN r u En o) 1=Ef (.loop ⟨lS r u,[12,13],sW,sX,En⟩):=fun _=>rfl
 have ht:∀o,(jN r u En o).take 1=Bs o:=fun _=>rfl
 simp only[hn,cT,he,hl,List.nil_append,List.cons_append,qH,h1,hg,ht,hb]
end Go.Z
namespace Go.Z
open Go Go.Abs Go.W
theorem jpw {hp:j8}{r:qc}{u:qf}:zf pr (X pr) 139 [aR r,aU u] hp=Ef (.fn (.func 210) [] [.ah (aU u),.ah (aR r)],I,hp):=by
 rw[zd (show pr.bj 139=Ef sY from rfl) (by simp)]
 simp only[go_sem,seval,sY]<;>rfl
def f141 (r:qc)(u:qf):Option Bool:=
 jw (bf (oy r u vJ) (0,[])) fun d=>jw (f134 r u) fun doc=>jw (GZ doc.ax d.2) fun b=>Ef (!b)
def jb9:qe:=lQ iz.body
def jbv:qe:=lQ (gV iz.body)
def ja7:qe:=lQ (lQ (gV (gV iz.body)))
def jcr:qe:=gV (gV (gV iz.body))
theorem zif {r:qc}{u:qf}{q}(h:f141 r u=Ef q):jy pr (X pr) 141 [aR r,aU u]=Ef (.bool q,I):=by
 unfold f141 at h
 obtain⟨d,h1,h⟩:=jx h
 obtain⟨doc,h2,h⟩:=jx h
 obtain⟨b,h3,h⟩:=jx h
 cases h
 have hx:X pr yG ⟨lS r u,[.map []]⟩=Ef (.normal,⟨lS r u,[.map (en d.2)]⟩):=jg7 h1
 have w1:=jpw (hp:=[.map []]) (r:=r) (u:=u)
 have ha:yi 1 (.fn (.func 210) [] [.ah (aU u),.ah (aR r)]) ([.map []]:j8)=[.map []]:=kW rfl
 have w2:jy pr (X pr) 134 [aR r,aU u]=Ef (aD doc,I):=NY h2
 have w3:=j1k h3
 have hb:yi 1 (.bool b) ([.map (en d.2)]:j8)=[.map (en d.2)]:=kW rfl
 have this:∃hh,zf pr (X pr) 141 [aR r,aU u] []=Ef (.bool (!b),I,hh):=by
  rw[zd (show pr.bj 141=Ef ⟨27,.seq jb9 (.seq jbv (.seq (.seq ja7 (.block 0 yG)) jcr)),[.tmp 4]⟩from rfl) (by simp)]
  simp only[lS]at hx
  simp only[go_sem,seval,jb9,jbv,ja7,jcr,lQ,gV,iz,w1,ha,w2,w3,hb,hx]
  exact⟨_,rfl⟩
 obtain⟨hh,this⟩:=this
 exact ko rfl this (by first|rfl|simp only[go_sem,seval]) (by first|rfl|simp only[go_sem,seval])
def f75 (r:qc)(u:qf):Option Int:=
 jw (bf (oy r u xG) (0,En)) fun d=>jw (f53 u.aq 21) fun e1=>jw (f140 r u) fun lt=>jw (f53 (!decide (u.version=lt)) 32) fun e2=>jw (f141 r u) fun c=>jw (f53 (!c) 20) fun e3=>
 jw (f74 r u) fun m=>jw (f53 (decide (0<((m.1.getD []).length:Int))) 31) fun e4=>jw (f142 d.2) fun hd=>jw (f53 (decide (0<((hd.1.getD []).length:Int))) 34) fun e5=>f51 (Ef [e1,e2,e3,e4,e5])
def jkd:qe:=lQ pA.body
def jju:qe:=lQ (gV pA.body)
def jj1:qe:=lQ (lQ (gV (gV pA.body)))
def jjx:qe:=gV (gV (gV pA.body))
theorem W75 {r:qc}{u:qf}{q}(h:f75 r u=Ef q):jy pr (X pr) 75 [aR r,aU u]=Ef (Iv q,I):=by
 unfold f75 at h
 obtain⟨d,h1,h⟩:=jx h
 obtain⟨e1,g1,h⟩:=jx h
 obtain⟨lt,h2,h⟩:=jx h
 obtain⟨e2,g2,h⟩:=jx h
 obtain⟨c,h3,h⟩:=jx h
 obtain⟨e3,g3,h⟩:=jx h
 obtain⟨m,h4,h⟩:=jx h
 obtain⟨e4,g4,h⟩:=jx h
 obtain⟨hd,h5,h⟩:=jx h
 obtain⟨e5,g5,h⟩:=jx h
 have hx:X pr wC ⟨lR r u,[.cells [(Nl,I)]]⟩=Ef (.normal,⟨lR r u,[.cells [(sl 5 z7 d.2,d.2.isSome)]]⟩):=jma h1
 have w1:=jpw (hp:=[.cells [(Nl,I)]]) (r:=r) (u:=u)
 have ha:yi 1 (.fn (.func 210) [] [.ah (aU u),.ah (aR r)]) ([.cells [(Nl,I)]]:j8)=[.cells [(Nl,I)]]:=kW rfl
 have k1:=ei g1
 have w2:jy pr (X pr) 140 [aR r,aU u]=Ef (Iv lt,I):=jq7 h2
 have k2:=ei g2
 have w3:=zif h3
 have k3:=ei g3
 have w4:jy pr (X pr) 74 [aR r,aU u]=Ef (sl 1 qae m.1,m.2):=W74 h4
 have k4:=ei g4
 have w5:=zb1 h5
 have k5:=ei g5
 have k6:jy pr (X pr) 51 [.list I 1 [Iv e1,Iv e2,Iv e3,Iv e4,Iv e5]]=Ef (Iv q,I):=iw h
 have this:∃hh,zf pr (X pr) 75 [aR r,aU u] []=Ef (Iv q,I,hh):=by
  rw[zd (show pr.bj 75=Ef ⟨44,.seq jkd (.seq jju (.seq (.seq jj1 (.block 0 wC)) jjx)),[.tmp 4]⟩from rfl) (by simp)]
  simp only[lR]at hx
  simp only[go_sem,seval,jkd,jju,jj1,jjx,lQ,gV,pA,w1,ha,k1,w2,k2,w3,k3,w4,k4,w5,k5,k6,hx]
  exact⟨_,rfl⟩
 obtain⟨hh,this⟩:=this
 exact ko rfl this (by first|rfl|simp only[go_sem,seval]) (by first|rfl|simp only[go_sem,seval])
end Go.Z
end
