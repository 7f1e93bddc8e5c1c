/- Chapter 10. -/
import Derived.Test.YtimdocpnkimlfaaGreatDoorW10
set_option linter.unusedVariables false
set_option linter.unusedSimpArgs false
set_option maxRecDepth 100000
set_option maxHeartbeats 4000000
noncomputable section
open Bool renaming false→I,cond_eq_ite→Gn,true→Gs
open Option renaming some→En,none→Gp,isNone_none→Gt
open Nat renaming eq_of_beq_eq_true→Ey,beq→Gq
namespace Go.Z
open Go Go.Abs Go.W
def Zu (a0:bq)(e0:List (List UInt8×Int)):Option Bool:=
 En (decide ((mU e0 a0.k)<a0.n))
theorem j7f {a0 e0 r}(h:Zu a0 e0=En r):qm pr (X pr) 194 [aN a0,.ah (.map 0)] [.map (eW e0)]=En (.bool r,I,[.map (eW e0)]):=by
 unfold Zu at h
 have hr:decide ((mU e0 a0.k)<a0.n)=r:=En.inj h
 subst hr
 rw[qn (show pr.bQ 194=En tY from rfl) (by simp)]
 simp only[go_sem,seval,tY,jok]<;>rfl
def Qf (a0:Option (List bq))(e0:List (List UInt8×Int))(s0:Int):Option (Int⊕(Int⊕Int)):=
 cond (decide (s0<((a0.getD []).length:Int)))
  (qa (qr (a0.getD []) s0) fun fq=>
  qa (Zu fq e0) fun eh=>
  cond eh
   (En (.inr (.inl s0)))
   (En (.inl (qe .i64 (s0+1)))))
  (En (.inr (.inr s0)))
def Qg (a0:Option (List bq))(e0:List (List UInt8×Int))(s0:Int):bf:=⟨[(0,sl 2 bn a0,I),(1,.fn (.func 194) [] [.ah (.map 0)],I),(7,Lv a0,I),(8,Iv s0,I)],[.map (eW e0)]⟩
def Qh (a0:Option (List bq))(e0:List (List UInt8×Int)):Int⊕Int→jf×bf
 | .inl d=>(.ret,⟨[(4,Iv d,I)],[.map (eW e0)]⟩)
 | .inr d=>(.exit 0,⟨[(0,sl 2 bn a0,I),(1,.fn (.func 194) [] [.ah (.map 0)],I),(7,Lv a0,I),(8,Iv d,I),(9,.bool I,I)],[.map (eW e0)]⟩)
theorem jr9 (a0:Option (List bq))(e0:List (List UInt8×Int))(s0:Int)(r)(h:Qf a0 e0 s0=En r):jz pr pz (Qg a0 e0) (Qh a0 e0) s0 r:=by
 unfold Qf at h
 repeat' first|(replace h:=qb h;obtain⟨d,g,h⟩:=h;with_reducible first|replace g:=j7f g|skip)|(replace h:=qd h;rcases h with⟨g,h⟩|⟨g,h⟩)
 all_goals (cases h<;>((first|refine qz ?_|refine jp ?_);simp only[go_sem,seval,pz,Qg,jg,Qh, *]<;>rfl))
theorem jru (a0:Option (List bq))(e0:List (List UInt8×Int)){s0 d}(h:bm (Qf a0 e0) s0=En d):X pr (.loop pz) (Qg a0 e0 s0)=En (Qh a0 e0 d):=zj (jr9 a0 e0) h
def II (a0:Option (List bq))(e0:List (List UInt8×Int)):Option Int:=
 qa (bm (Qf a0 e0) 0) fun d19=>match d19 with
  | .inl d21=>
   En d21
  | .inr d22=>
   En (-1)
theorem j4d {a0 e0 r}(h:II a0 e0=En r):qm pr (X pr) 250 [sl 2 bn a0,.fn (.func 194) [] [.ah (.map 0)]] [.map (eW e0)]=En (Iv r,I,[.map (eW e0)]):=by
 unfold II at h
 rw[qn (show pr.bQ 250=En iZ from rfl) (by simp)]
 repeat' first|(replace h:=qb h;obtain⟨d,g,h⟩:=h;with_reducible first|(replace g:=jru a0 e0 g;rcases d with d|d<;>dsimp only[Qg,Qh,zk]at g h)|skip)|(replace h:=qd h;rcases h with⟨g,h⟩|⟨g,h⟩)
 all_goals (cases h<;>(simp only[go_sem,seval,iZ, *]<;>rfl))
def IH (a0:Option (List bq))(e0:List (List UInt8×Int)):Option Bool:=
 qa (II a0 e0) fun v1=>
 En (decide (0≤v1))
theorem j72 {a0 e0 r}(h:IH a0 e0=En r):qm pr (X pr) 193 [sl 2 bn a0,.fn (.func 194) [] [.ah (.map 0)]] [.map (eW e0)]=En (.bool r,I,[.map (eW e0)]):=by
 unfold IH at h
 obtain⟨v1,h2,h⟩:=qb h
 have sX:qm pr (X pr) 250 [sl 2 bn a0,.fn (.func 194) [] [.ah (.map 0)]] [.map (eW e0)]=En (Iv v1,I,[.map (eW e0)]):=j4d h2
 have hr:decide (0≤v1)=r:=En.inj h
 subst hr
 rw[qn (show pr.bQ 193=En lq from rfl) (by simp)]
 simp only[go_sem,seval,lq,sX]<;>rfl
def Nq (a0:jd):Option Bool:=
 En a0.held
theorem zjg (hp:qh){a0 r}(h:Nq a0=En r):qm pr (X pr) 135 [aL a0] hp=En (.bool r,I,hp):=by
 unfold Nq at h
 have hr:a0.held=r:=En.inj h
 subst hr
 rw[qn (show pr.bQ 135=En tZ from rfl) (by simp)]
 simp only[go_sem,seval,tZ]<;>rfl
def IP (a0:Option (List jd))(s0:(Option (List jd))×Int×Bool):Option (((Option (List jd))×Int×Bool)⊕(((Option (List jd))×Bool×Int))):=
 cond (decide (s0.2.1<((a0.getD []).length:Int)))
  (qa (qr (a0.getD []) s0.2.1) fun v20=>
  qa (Nq v20) fun v22=>
  cond v22
   (cond s0.2.2
    (qa (bH s0.1 [v20]) fun v26=>
    En (.inl (v26,qe .i64 (s0.2.1+1),Gs)))
    (cond s0.1.isNone
     (qa (bH s0.1 [v20]) fun ik=>
     En (.inl (ik,qe .i64 (s0.2.1+1),Gs)))
     (Gp)))
   (En (.inl (s0.1,qe .i64 (s0.2.1+1),s0.2.2))))
  (En (.inr (s0.1,s0.2.2,s0.2.1)))
def Qi (a0:Option (List jd))(s0:(Option (List jd))×Int×Bool):bf:=⟨[(1,.fn (.func 135) [] [],I),(5,sl 5 jc s0.1,s0.2.2),(8,sl 5 jc a0,I),(9,Lv a0,I),(10,Iv s0.2.1,I)],[]⟩
def Qj (a0:Option (List jd))(d:((Option (List jd))×Bool×Int)):jf×bf:=(.exit 0,⟨[(1,.fn (.func 135) [] [],I),(5,sl 5 jc d.1,d.2.1),(8,sl 5 jc a0,I),(9,Lv a0,I),(10,Iv d.2.2,I),(11,.bool I,I)],[]⟩)
theorem jvf (a0:Option (List jd))(s0:(Option (List jd))×Int×Bool)(r)(h:IP a0 s0=En r):jz pr Qk (Qi a0) (Qj a0) s0 r:=by
 unfold IP at h
 repeat' first|(replace h:=qb h;obtain⟨d,g,h⟩:=h;with_reducible first|replace g:=zjg [] g|replace g:=Xr g|skip)|(replace h:=qd h;rcases h with⟨g,h⟩|⟨g,h⟩)
 all_goals (cases h<;>((first|refine qz ?_|refine jp ?_);simp only[go_sem,seval,Qk,Qi,jg,Qj, *]<;>rfl))
theorem jyq (a0:Option (List jd)){s0 d}(h:bm (IP a0) s0=En d):X pr (.loop Qk) (Qi a0 s0)=En (Qj a0 d):=zj (jvf a0) h
def IL (a0:Option (List jd)):Option ((Option (List jd))×Bool):=
 qa (bm (IP a0) (Gp,0,I)) fun d31=>
 En (d31.1,d31.2.1)
theorem zeu {a0 r}(h:IL a0=En r):qc pr (X pr) 134 [sl 5 jc a0,.fn (.func 135) [] []]=En (sl 5 jc r.1,r.2):=by
 unfold IL at h
 refine yv ua ?_
 repeat' first|(replace h:=qb h;obtain⟨d,g,h⟩:=h;with_reducible first|(replace g:=jyq a0 g;dsimp only[Qi,Qj,zk]at g h)|skip)|(replace h:=qd h;rcases h with⟨g,h⟩|⟨g,h⟩)
 all_goals (cases h<;>(simp only[go_sem,seval,ua, *];exact⟨_,rfl⟩))
end Go.Z
namespace Go.Z
open Go Go.Abs Go.W
def mg:au→au
 | .seq a _=>a
 |x=>x
def iF:au→au
 | .seq _ b=>b
 |x=>x
def Dj:au→au
 | .block _ b=>b
 |x=>x
def Ql:au→au
 | .rangeFunc _ _ a _=>a
 |x=>x
def Kt:au→au
 | .rangeFunc _ _ _ b=>b
 |x=>x
theorem qyh {n v h t}(hn:h.length=n)(hv:Abs.below n v=Gs)(hb:zw n h=Gs):zg n v (h++t)=h:=by
 have ht:(h++t).take n=h:=by rw[←hn,List.take_left'];rfl
 unfold zg
 rw[ht,hv,hb]
 cases hc:Nat.ble (h++t).length n with
 |true=>
  have:=Nat.le_of_ble_eq_true hc
  rw[List.length_append,hn]at this
  have:t=[]:=List.eq_nil_of_length_eq_zero (by omega)
  subst this;simp
 |false=>rfl
theorem tw {n v h}(hn:h.length=n):zg n v h=h:=by
 unfold zg
 rw[Nat.ble_eq_true_of_le (by omega)];rfl
section
variable {σ:Type}(r:aj)(u:ay)(H:σ→qh)(step:σ→jd→Int→Option σ)
def pj (x:Int×σ):Option ((Int×σ)⊕(Int×σ)):=
 cond (decide (x.1<((u.uses.getD []).length:Int)))
  (qa (qr (u.uses.getD []) x.1) fun s=>qa (f64 r s.k) fun v=>qa (qr (r.lots.getD []) v) fun l=>qa (step x.2 l s.n) fun y=>En (.inl (qe .i64 (x.1+1),y)))
  (En (.inr x))
def FP (x:Int×σ):bf:=⟨[(0,.fn (.yield 1) [] [],I),(2,.ah (aR r),I),(7,sl 2 bn u.uses,I),(8,Lv u.uses,I),(9,Iv x.1,I)],H x.2⟩
def Qm (x:Int×σ):jf×bf:=(.exit 0,⟨[(0,.fn (.yield 1) [] [],I),(2,.ah (aR r),I),(7,sl 2 bn u.uses,I),(8,Lv u.uses,I),(9,Iv x.1,I),(10,.bool I,I)],H x.2⟩)
theorem zh7 (hy:∀x l n y,step x l n=En y→kL (X pr) 1 [aL l,Iv n] (H x)=En (.bool Gs,H y))(hl:∀x,(H x).length=2)(x:Int×σ)(q)(h:pj r u step x=En q):jz pr Ku (FP r u H) (Qm r u H) x q:=by
 unfold pj at h
 rcases qd h with⟨h1,h⟩|⟨h1,h⟩
 ·obtain⟨s,h2,h⟩:=qb h
  obtain⟨v,h3,h⟩:=qb h
  obtain⟨l,h4,h⟩:=qb h
  obtain⟨y,h5,h⟩:=qb h
  cases h
  have g:=hy _ _ _ _ h5
  have w:=C9 h3
  exact E5 (bV:=FP r u H (qe .i64 (x.1+1),y)) (by simp only[go_sem,seval,Ku,FP,h1,yb h2,w,yb h4,g]<;>rfl) (H2 (by show(H y).length≤(H x.2).length;rw[hl,hl];exact Nat.le_refl _))
 ·cases h
  exact qz (by simp only[go_sem,seval,Ku,FP,h1,Qm]<;>rfl)
theorem jx3 {r:aj}{u:ay}{H:σ→qh}{step:σ→jd→Int→Option σ}(hy:∀x l n y,step x l n=En y→kL (X pr) 1 [aL l,Iv n] (H x)=En (.bool Gs,H y))(hl:∀x,(H x).length=2){x0 d}(h:bm (pj r u step) (0,x0)=En d):qm pr (X pr) 192 [.fn (.yield 1) [] [],.ah (aU u),.ah (aR r)] (H x0)=En (.aB [],I,H d.2):=by
 have h1:X pr (.loop Ku) (FP r u H (0,x0))=En (Qm r u H d):=jn7 (zh7 r u H step hy hl) (fun d=>by intro hh;cases hh) h
 rw[qn (show pr.bQ 192=En ub from rfl) (by simp)]
 simp only[FP,Qm]at h1
 simp only[go_sem,seval,ub,h1]<;>rfl
end
def x9:au:=Dj (iF (mg (iF (iF qI.body))))
def uc:au:=Ql x9
def qJ:au:=Kt x9
theorem jp1:x9=.rangeFunc (.tmp 9) [10,11] uc qJ:=rfl
def mr (r:aj)(u:ay):Env:=[(2,.ah (aR r),I),(3,.ah (aU u),I),(5,.ptr 0 0,I),(9,.fn (.func 192) [] [.ah (aU u),.ah (aR r)],I)]
def Dk (o:Option (List jd)):qh:=[.cells [(sl 5 jc o,o.isSome)]]
def jV (r:aj)(u:ay)(pd:Option jf)(o:Option (List jd)):qh:=[.cells [(sl 5 jc o,o.isSome)],.loop ⟨mr r u,[10,11],uc,qJ,pd⟩]
def Zv (r:aj)(u:ay)(l:jd)(n:Int):Env:=(([10,11][1]),Iv n,I)::(([10,11][0]),aL l,I)::mr r u
def Qn (r:aj)(u:ay)(l:jd)(n:Int):Env:=[(2,.ah (aR r),I),(3,.ah (aU u),I),(5,.ptr 0 0,I),(6,.ah (aL l),I)]
theorem zey {r u l n}:wF (fK (mr r u)) [10,11] [aL l,Iv n]=En (Zv r u l n):=rfl
theorem jlk {r u l n H}:X pr uc ⟨Zv r u l n,H⟩=En (.normal,⟨Qn r u l n,H⟩):=by
 simp only[go_sem,seval,uc,Ql,x9,Dj,mg,iF,qI,Zv,mr,List.getElem_cons_zero,List.getElem_cons_succ]<;>rfl
def zS (o:Option (List jd))(l:jd)(_:Int):Option (Option (List jd)):=bH o [l]
theorem jmn {r u l n pd o o'}(ho:zS o l n=En o'):∃e t,X pr qJ ⟨Qn r u l n,jV r u pd o⟩=En (.normal,⟨e,jV r u pd o'++t⟩):=by
 unfold zS at ho
 have hs:o'.isSome=Gs:=by
  cases o' with
  |some _=>rfl
  |none=>cases o<;>simp[bH,Fm]at ho
 cases o with
 |none=>
  have ap:=fun(b:Nat) (h:qh) (bb:Bool)=>qw5 (b:=b) (h:=h) (bb:=bb) ho rfl
  simp only[go_sem,seval,qJ,Kt,x9,Dj,mg,iF,qI,Qn,jV,ap,Option.isSome_none,hs]
  exact⟨_,_,rfl⟩
 |some o=>
  have ap:=fun(b t:Nat) (h:qh) (bb:Bool)=>qve (b:=b) (t:=t) (h:=h) (bb:=bb) ho
  simp only[go_sem,seval,qJ,Kt,x9,Dj,mg,iF,qI,Qn,jV,ap,Option.isSome_some,hs]
  exact⟨_,_,rfl⟩
theorem jee {r u pd o}:zw 2 (jV r u pd o)=Gs:=by
 simp only[go_sem,seval,jV,zw,pF,pE,nj,mr]<;>rfl
theorem y75 {r u l n o o'}(ho:zS o l n=En o'):kL (X pr) 1 [aL l,Iv n] (jV r u Gp o)=En (.bool Gs,jV r u Gp o'):=by
 have g:∀o pd t,zm (jV r u pd o++t) 1=En (.loop ⟨mr r u,[10,11],uc,qJ,pd⟩):=fun _ _ _=>rfl
 have g0:∀o pd,zm (jV r u pd o) 1=En (.loop ⟨mr r u,[10,11],uc,qJ,pd⟩):=fun _ _=>rfl
 have st:∀o pd ud t,(jV r u pd o++t).set 1 (.loop ⟨mr r u,[10,11],uc,qJ,ud⟩)=jV r u ud o++t:=fun _ _ _ _=>rfl
 have Zw:∀o pd ud,(jV r u pd o).set 1 (.loop ⟨mr r u,[10,11],uc,qJ,ud⟩)=jV r u ud o:=fun _ _ _=>rfl
 have hl:∀o pd,(jV r u pd o).length=2:=fun _ _=>rfl
 have ha:∀o pd v t,Abs.below 2 v=Gs→zg 2 v (jV r u pd o++t)=jV r u pd o:=fun _ _ _ _ hv=>qyh rfl hv jee
 obtain⟨e,t,hx⟩:=jmn (r:=r) (u:=u) (n:=n) (pd:=En .normal) ho
 unfold kL
 simp only[g0,zey,jlk,Gt,cond_true,Zw,hl,hx,g,st]
 rw[ha _ _ _ _ rfl]
theorem jq4 {r:aj}{u:ay}{o:Option (List jd)}{d}(h:bm (pj r u zS) (0,o)=En d):X pr x9 ⟨mr r u,Dk o⟩=En (.normal,⟨mr r u,Dk d.2⟩):=by
 have h1:=jx3 (H:=jV r u Gp) (fun x l n y hs=>y75 hs) (fun _=>rfl) h
 have hb:∀o,zw 1 (Dk o)=Gs:=by
  intro o
  simp only[go_sem,seval,Dk,zw,pF,pE]<;>rfl
 rw[jp1,WB]
 unfold nu
 have hn:(ya uc&&ya qJ)=Gs:=rfl
 have he:qi (mr r u) (.tmp 9)=En (.fn (.func 192) [] [.ah (aU u),.ah (aR r)]):=rfl
 have hl:∀o,(Dk o).length=1:=fun _=>rfl
 have rN:∀o,Dk o++[.loop ⟨mr r u,[10,11],uc,qJ,Gp⟩]=jV r u Gp o:=fun _=>rfl
 have hg:∀o,zm (jV r u Gp o) 1=En (.loop ⟨mr r u,[10,11],uc,qJ,Gp⟩):=fun _=>rfl
 have ht:∀o,(jV r u Gp o).take 1=Dk o:=fun _=>rfl
 simp only[hn,cond_true,he,hl,List.nil_append,List.cons_append,rN,h1,hg,ht,hb]
def AB:au:=Dj (iF (mg (iF (iF jC.body))))
def uf:au:=Ql AB
def ug:au:=Kt AB
theorem jkq:AB=.rangeFunc (.tmp 11) [12,13] uf ug:=rfl
def mA (r:aj)(u:ay):Env:=[(2,.ah (aR r),I),(3,.ah (aU u),I),(5,.ah (.map 0),I),(11,.fn (.func 192) [] [.ah (aU u),.ah (aR r)],I)]
def Dl (o:List (List UInt8×Int)):qh:=[.map (eW o)]
def kK (r:aj)(u:ay)(pd:Option jf)(o:List (List UInt8×Int)):qh:=[.map (eW o),.loop ⟨mA r u,[12,13],uf,ug,pd⟩]
def Zx (r:aj)(u:ay)(l:jd)(n:Int):Env:=(([12,13][1]),Iv n,I)::(([12,13][0]),aL l,I)::mA r u
def Zy (r:aj)(u:ay)(l:jd)(n:Int):Env:=[(2,.ah (aR r),I),(3,.ah (aU u),I),(5,.ah (.map 0),I),(6,.ah (aL l),I),(7,Iv n,I)]
theorem j7q {r u l n}:wF (fK (mA r u)) [12,13] [aL l,Iv n]=En (Zx r u l n):=rfl
theorem jed {r u l n H}:X pr uf ⟨Zx r u l n,H⟩=En (.normal,⟨Zy r u l n,H⟩):=by
 simp only[go_sem,seval,uf,Ql,AB,Dj,mg,iF,jC,Zx,mA,List.getElem_cons_zero,List.getElem_cons_succ]<;>rfl
def wZ (o:List (List UInt8×Int))(l:jd)(n:Int):Option (List (List UInt8×Int)):=Nc o l.kind (qe .i64 (mU o l.kind+n))
theorem jek {r u l n pd o o'}(ho:wZ o l n=En o'):∃e t,X pr ug ⟨Zy r u l n,kK r u pd o⟩=En (.normal,⟨e,kK r u pd o'++t⟩):=by
 unfold wZ at ho
 simp only[go_sem,seval,ug,Kt,AB,Dj,mg,iF,jC,Zy,kK,jok,jv0 ho]
 exact⟨_,_,rfl⟩
theorem jaq {r u pd o}:zw 2 (kK r u pd o)=Gs:=by
 simp only[go_sem,seval,kK,zw,pF,pE,nj,mA]<;>rfl
theorem zlr {r u l n o o'}(ho:wZ o l n=En o'):kL (X pr) 1 [aL l,Iv n] (kK r u Gp o)=En (.bool Gs,kK r u Gp o'):=by
 have g:∀o pd t,zm (kK r u pd o++t) 1=En (.loop ⟨mA r u,[12,13],uf,ug,pd⟩):=fun _ _ _=>rfl
 have g0:∀o pd,zm (kK r u pd o) 1=En (.loop ⟨mA r u,[12,13],uf,ug,pd⟩):=fun _ _=>rfl
 have st:∀o pd ud t,(kK r u pd o++t).set 1 (.loop ⟨mA r u,[12,13],uf,ug,ud⟩)=kK r u ud o++t:=fun _ _ _ _=>rfl
 have Zw:∀o pd ud,(kK r u pd o).set 1 (.loop ⟨mA r u,[12,13],uf,ug,ud⟩)=kK r u ud o:=fun _ _ _=>rfl
 have hl:∀o pd,(kK r u pd o).length=2:=fun _ _=>rfl
 have ha:∀o pd v t,Abs.below 2 v=Gs→zg 2 v (kK r u pd o++t)=kK r u pd o:=fun _ _ _ _ hv=>qyh rfl hv jaq
 obtain⟨e,t,hx⟩:=jek (r:=r) (u:=u) (n:=n) (pd:=En .normal) ho
 unfold kL
 simp only[g0,j7q,jed,Gt,cond_true,Zw,hl,hx,g,st]
 rw[ha _ _ _ _ rfl]
theorem jks {r:aj}{u:ay}{o:List (List UInt8×Int)}{d}(h:bm (pj r u wZ) (0,o)=En d):X pr AB ⟨mA r u,Dl o⟩=En (.normal,⟨mA r u,Dl d.2⟩):=by
 have h1:=jx3 (H:=kK r u Gp) (fun x l n y hs=>zlr hs) (fun _=>rfl) h
 have hb:∀o,zw 1 (Dl o)=Gs:=by
  intro o
  simp only[go_sem,seval,Dl,zw,pF,pE]<;>rfl
 rw[jkq,WB]
 unfold nu
 have hn:(ya uf&&ya ug)=Gs:=rfl
 have he:qi (mA r u) (.tmp 11)=En (.fn (.func 192) [] [.ah (aU u),.ah (aR r)]):=rfl
 have hl:∀o,(Dl o).length=1:=fun _=>rfl
 have rN:∀o,Dl o++[.loop ⟨mA r u,[12,13],uf,ug,Gp⟩]=kK r u Gp o:=fun _=>rfl
 have hg:∀o,zm (kK r u Gp o) 1=En (.loop ⟨mA r u,[12,13],uf,ug,Gp⟩):=fun _=>rfl
 have ht:∀o,(kK r u Gp o).take 1=Dl o:=fun _=>rfl
 simp only[hn,cond_true,he,hl,List.nil_append,List.cons_append,rN,h1,hg,ht,hb]
end Go.Z
namespace Go.Z
open Go Go.Abs Go.W
theorem ju9 {hp r u}:qm pr (X pr) 131 [aR r,aU u] hp=En (.fn (.func 192) [] [.ah (aU u),.ah (aR r)],I,hp):=by
 rw[qn (show pr.bQ 131=En uh from rfl) (by simp)]
 simp only[go_sem,seval,uh]<;>rfl
def IJ (r:aj)(u:ay):Option Bool:=
 qa (bm (pj r u wZ) (0,[])) fun d=>qa (pY r u) fun doc=>qa (IH doc.aK d.2) fun b=>En (!b)
def jg4:au:=mg jC.body
def je4:au:=mg (iF jC.body)
def jea:au:=mg (mg (iF (iF jC.body)))
def jgg:au:=iF (iF (iF jC.body))
theorem zh8 {r u q}(h:IJ r u=En q):qc pr (X pr) 133 [aR r,aU u]=En (.bool q,I):=by
 unfold IJ at h
 obtain⟨d,h1,h⟩:=qb h
 obtain⟨doc,h2,h⟩:=qb h
 obtain⟨b,h3,h⟩:=qb h
 cases h
 have hx:X pr AB ⟨mA r u,[.map []]⟩=En (.normal,⟨mA r u,[.map (eW d.2)]⟩):=jks h1
 have w1:=ju9 (hp:=[.map []]) (r:=r) (u:=u)
 have ha:zg 1 (.fn (.func 192) [] [.ah (aU u),.ah (aR r)]) ([.map []]:qh)=[.map []]:=tw rfl
 have w2:qc pr (X pr) 126 [aR r,aU u]=En (aD doc,I):=P2 h2
 have w3:=j72 h3
 have hb:zg 1 (.bool b) ([.map (eW d.2)]:qh)=[.map (eW d.2)]:=tw rfl
 have this:∃hh,qm pr (X pr) 133 [aR r,aU u] []=En (.bool (!b),I,hh):=by
  rw[qn (show pr.bQ 133=En ⟨27,.seq jg4 (.seq je4 (.seq (.seq jea (.block 0 AB)) jgg)),[.tmp 4]⟩from rfl) (by simp)]
  simp only[mA]at hx
  simp only[go_sem,seval,jg4,je4,jea,jgg,mg,iF,jC,w1,ha,w2,w3,hb,hx]
  exact⟨_,rfl⟩
 obtain⟨hh,this⟩:=this
 exact yd rfl this (by first|rfl|simp only[go_sem,seval]) (by first|rfl|simp only[go_sem,seval])
def f79 (r:aj)(u:ay):Option Int:=
 qa (bm (pj r u zS) (0,Gp)) fun d=>qa (f48 u.shipped 21) fun e1=>qa (Fc r u) fun lt=>qa (f48 (!decide (u.version=lt)) 32) fun e2=>qa (IJ r u) fun c=>qa (f48 (!c) 20) fun e3=>
 qa (f78 r u) fun m=>qa (f48 (decide (0<((m.1.getD []).length:Int))) 31) fun e4=>qa (IL d.2) fun hd=>qa (f48 (decide (0<((hd.1.getD []).length:Int))) 34) fun e5=>f46 (En [e1,e2,e3,e4,e5])
def jor:au:=mg qI.body
def jo7:au:=mg (iF qI.body)
def jo6:au:=mg (mg (iF (iF qI.body)))
def jol:au:=iF (iF (iF qI.body))
theorem W79 {r u q}(h:f79 r u=En q):qc pr (X pr) 79 [aR r,aU u]=En (Iv q,I):=by
 unfold f79 at h
 obtain⟨d,h1,h⟩:=qb h
 obtain⟨e1,g1,h⟩:=qb h
 obtain⟨lt,h2,h⟩:=qb h
 obtain⟨e2,g2,h⟩:=qb h
 obtain⟨c,h3,h⟩:=qb h
 obtain⟨e3,g3,h⟩:=qb h
 obtain⟨m,h4,h⟩:=qb h
 obtain⟨e4,g4,h⟩:=qb h
 obtain⟨hd,h5,h⟩:=qb h
 obtain⟨e5,g5,h⟩:=qb h
 have hx:X pr x9 ⟨mr r u,[.cells [(Nl,I)]]⟩=En (.normal,⟨mr r u,[.cells [(sl 5 jc d.2,d.2.isSome)]]⟩):=jq4 h1
 have w1:=ju9 (hp:=[.cells [(Nl,I)]]) (r:=r) (u:=u)
 have ha:zg 1 (.fn (.func 192) [] [.ah (aU u),.ah (aR r)]) ([.cells [(Nl,I)]]:qh)=[.cells [(Nl,I)]]:=tw rfl
 have k1:=gg g1
 have w2:qc pr (X pr) 132 [aR r,aU u]=En (Iv lt,I):=juw h2
 have k2:=gg g2
 have w3:=zh8 h3
 have k3:=gg g3
 have w4:qc pr (X pr) 78 [aR r,aU u]=En (sl 1 j9 m.1,m.2):=W78 h4
 have k4:=gg g4
 have w5:=zeu h5
 have k5:=gg g5
 have k6:qc pr (X pr) 46 [.list I 1 [Iv e1,Iv e2,Iv e3,Iv e4,Iv e5]]=En (Iv q,I):=mf h
 have this:∃hh,qm pr (X pr) 79 [aR r,aU u] []=En (Iv q,I,hh):=by
  rw[qn (show pr.bQ 79=En ⟨44,.seq jor (.seq jo7 (.seq (.seq jo6 (.block 0 x9)) jol)),[.tmp 4]⟩from rfl) (by simp)]
  simp only[mr]at hx
  simp only[go_sem,seval,jor,jo7,jo6,jol,mg,iF,qI,w1,ha,k1,w2,k2,w3,k3,w4,k4,w5,k5,k6,hx]
  exact⟨_,rfl⟩
 obtain⟨hh,this⟩:=this
 exact yd rfl this (by first|rfl|simp only[go_sem,seval]) (by first|rfl|simp only[go_sem,seval])
end Go.Z
namespace Go.Z
open Go Go.Abs Go.W
def Jl (a1:GEv)(aX:Int)(aQ:Option (List jd))(aO:Option (List aS))(aA:Option (List ay)):Option (Int×(Option (List ay))):=
 qa (qr (a1.names.getD []) 0) fun v1=>
 qa (f76 (⟨aX,aQ,aO,aA⟩) v1) fun v3=>
 qa (qr (aA.getD []) v3) fun v5=>
 qa (f79 (⟨aX,aQ,aO,aA⟩) v5) fun v7=>
 cond (decide (v7=0))
  (qa (XV aA v3) fun v10=>
  En (0,v10))
  (En (v7,aA))
theorem zfi {a1 aX aQ aO aA x1 x2 x3 r}(h:Jl a1 aX aQ aO aA=En r):qm pr (X pr) 180 [.ptr 0 0,aE a1] [kR aX aQ aO aA,x1,x2,x3]=En (Iv r.1,I,[kR aX aQ aO r.2,x1,x2,x3]):=by
 unfold Jl at h
 rw[qn (show pr.bQ 180=En ui from rfl) (by simp)]
 repeat' first|(replace h:=qb h;obtain⟨d,g,h⟩:=h;with_reducible first|replace g:=xY g|replace g:=W79 g|replace g:=jj1 g|skip)|(replace h:=qd h;rcases h with⟨g,h⟩|⟨g,h⟩)
 all_goals (cases h<;>(simp only[go_sem,seval,ui,jg, *]<;>rfl))
end Go.Z
namespace Go.Z
open Go Go.Abs Go.W
def Cq (a0:aj)(a1:GEv):Option (Option (Nat)⊕(Nat⊕Nat)):=
 cond (decide (0<(zc a1.kind).length))
  (cond (decide (((ql (zc a1.kind) 0).1:Int)=45))
   (En (.inl (En (0+(ql (zc a1.kind) 0).2))))
   (qa (qr (a1.names.getD []) (0:Int)) fun Ko=>
   qa (Fv a0 ((ql (zc a1.kind) 0).1:Int) Ko) fun Aw=>
   cond Aw
    (En (.inl (En (0+(ql (zc a1.kind) 0).2))))
    (En (.inr (.inl (0+(ql (zc a1.kind) 0).2))))))
  (En (.inr (.inr 0)))
def xg (a0:aj)(a1:GEv)(s0:Nat):Option (Option (Nat)⊕(Nat⊕Nat)):=
 cond (decide (s0<(zc a1.kind).length))
  (cond (decide (((ql (zc a1.kind) s0).1:Int)=45))
   (En (.inl (En (s0+(ql (zc a1.kind) s0).2))))
   (qa (qr (a1.names.getD []) (s0:Int)) fun Ax=>
   qa (Fv a0 ((ql (zc a1.kind) s0).1:Int) Ax) fun CX=>
   cond CX
    (En (.inl (En (s0+(ql (zc a1.kind) s0).2))))
    (En (.inr (.inl (s0+(ql (zc a1.kind) s0).2))))))
  (En (.inr (.inr s0)))
def Fw (a0:aj)(a1:GEv):Option (Nat)→Option (Option (Nat)⊕(Nat⊕Nat))
 |none=>Cq a0 a1
 |some x=>xg a0 a1 x
def Zz (a0:aj)(a1:GEv)(s0:Nat):bf:=⟨[(2,.ptr 0 0,I),(3,.ah (aE a1),I),(4,.ptr 1 0,I),(6,.ah (.agg [.str (zc a1.kind),Iv (nP a1.kind),l4 a1.kind]),I),(24,.ptr 3 0,I),(41,.bool I,I)],[.cells [(Iv a0.day,I),(sl 5 jc a0.lots,I),(sl 4 qv a0.ae,I),(sl 8 aY a0.units,I)],kZ,.map q9,.iter (zc a1.kind) s0]⟩
def FQ (a0:aj)(a1:GEv):Option (Nat)→bf
 |none=>⟨[(2,.ptr 0 0,I),(3,.ah (aE a1),I),(4,.ptr 1 0,I),(6,.ah (.agg [.str (zc a1.kind),Iv (nP a1.kind),l4 a1.kind]),I),(24,.ptr 3 0,I)],[.cells [(Iv a0.day,I),(sl 5 jc a0.lots,I),(sl 4 qv a0.ae,I),(sl 8 aY a0.units,I)],kZ,.map q9,.iter (zc a1.kind) 0]⟩
 |some x=>Zz a0 a1 x
def FR (a0:aj)(a1:GEv):Nat⊕Nat→jf×bf
 | .inl d=>(.ret,⟨[(4,.ptr 1 0,I),(5,Iv 10,I)],[.cells [(Iv a0.day,I),(sl 5 jc a0.lots,I),(sl 4 qv a0.ae,I),(sl 8 aY a0.units,I)],kZ,.map q9,.iter (zc a1.kind) d]⟩)
 | .inr d=>(.exit 0,⟨[(2,.ptr 0 0,I),(3,.ah (aE a1),I),(4,.ptr 1 0,I),(6,.ah (.agg [.str (zc a1.kind),Iv (nP a1.kind),l4 a1.kind]),I),(24,.ptr 3 0,I),(25,.aB [.bool I],I),(26,.bool I,I)],[.cells [(Iv a0.day,I),(sl 5 jc a0.lots,I),(sl 4 qv a0.ae,I),(sl 8 aY a0.units,I)],kZ,.map q9,.iter (zc a1.kind) d]⟩)
theorem jrn (a0:aj)(a1:GEv)(r)(h:Cq a0 a1=En r):jz pr yA (FQ a0 a1) (FR a0 a1) Gp r:=by
 unfold Cq at h
 repeat' first|(replace h:=qb h;obtain⟨d,g,h⟩:=h;with_reducible first|replace g:=jur g|skip)|(replace h:=qd h;rcases h with⟨g,h⟩|⟨g,h⟩)
 all_goals (cases h<;>((first|refine qz ?_|refine jp ?_);simp only[go_sem,seval,yA,FQ,Zz,M7,jg,FR, *]<;>rfl))
theorem jqi (a0:aj)(a1:GEv)(s0:Nat)(r)(h:xg a0 a1 s0=En r):jz pr yA (FQ a0 a1) (FR a0 a1) (En s0) r:=by
 unfold xg at h
 repeat' first|(replace h:=qb h;obtain⟨d,g,h⟩:=h;with_reducible first|replace g:=jur g|skip)|(replace h:=qd h;rcases h with⟨g,h⟩|⟨g,h⟩)
 all_goals (cases h<;>((first|refine qz ?_|refine jp ?_);simp only[go_sem,seval,yA,FQ,Zz,M7,jg,FR, *]<;>rfl))
theorem jy0 (a0:aj)(a1:GEv):∀(x:Option (Nat)) (r) (h:Fw a0 a1 x=En r),jz pr yA (FQ a0 a1) (FR a0 a1) x r
 |none,r,h=>jrn a0 a1 r h
 |some x,r,h=>jqi a0 a1 x r h
theorem jem (a0:aj)(a1:GEv){s0 d}(h:bm (Fw a0 a1) s0=En d):X pr (.loop yA) (FQ a0 a1 s0)=En (FR a0 a1 d):=zj (jy0 a0 a1) h
def fG (k:Nat)(a0:aj)(a1:GEv):Option (Int×aj):=
 bif Gq k 168 then qa (Jc a1 a0.day a0.lots a0.ae a0.units) fun v=>En (v.1,{ a0 with lots:=v.2.1 })else
 bif Gq k 169 then qa (f169 a1 a0.day a0.lots a0.ae a0.units) fun v=>En (v.1,{ a0 with ae:=v.2.1 })else
 bif Gq k 170 then qa (f170 a1 a0.day a0.lots a0.ae a0.units) fun v=>En (v.1,{ a0 with ae:=v.2 })else
 bif Gq k 171 then qa (f171 a1 a0.day a0.lots a0.ae a0.units) fun v=>En (v.1,{ a0 with ae:=v.2 })else
 bif Gq k 172 then qa (Jh a1 a0.day a0.lots a0.ae a0.units) fun v=>En (v.1,{ a0 with ae:=v.2 })else
 bif Gq k 173 then qa (Jd a1 a0.day a0.lots a0.ae a0.units) fun v=>En (v.1,{ a0 with units:=v.2.1 })else
 bif Gq k 175 then qa (Jn a1 a0.day a0.lots a0.ae a0.units) fun v=>En (v.1,{ a0 with units:=v.2 })else
 bif Gq k 176 then qa (Jk a1 a0.day a0.lots a0.ae a0.units) fun v=>En (v.1,{ a0 with units:=v.2 })else
 bif Gq k 177 then qa (Jq a1 a0.day a0.lots a0.ae a0.units) fun v=>En (v.1,{ a0 with units:=v.2 })else
 bif Gq k 178 then qa (Ji a1 a0.day a0.lots a0.ae a0.units) fun v=>En (v.1,{ a0 with lots:=v.2 })else
 bif Gq k 179 then qa (Jj a1 a0.day a0.lots a0.ae a0.units) fun v=>En (v.1,{ a0 with lots:=v.2 })else
 bif Gq k 180 then qa (Jl a1 a0.day a0.lots a0.ae a0.units) fun v=>En (v.1,{ a0 with units:=v.2 })else
 bif Gq k 181 then qa (Jm a1 a0.day a0.lots a0.ae a0.units) fun v=>En (v.1,{ a0 with units:=v.2 })else
 bif Gq k 174 then qa (Jo a1 a0.day a0.lots a0.ae a0.units) fun v=>En (v.1,{ a0 with lots:=v.2.1,units:=v.2.2 })else Gp
theorem jhh {k a0 a1 x1 x2 x3 v}(h:fG k a0 a1=En v):
  (∃w1 w2 w3:Bool,qm pr (X pr) k [.ptr 0 0,aE a1] [.cells [(Iv a0.day,I),(sl 5 jc a0.lots,I),(sl 4 qv a0.ae,I),(sl 8 aY a0.units,I)],x1,x2,x3]=En (Iv v.1,I,[.cells [(Iv v.2.day,I),(sl 5 jc v.2.lots,w1),(sl 4 qv v.2.ae,w2),(sl 8 aY v.2.units,w3)],x1,x2,x3])∧v.2.day=a0.day) ∨
  (v.1=0∧v.2.day=a0.day∧∃(n:Nat) (b:bh) (cs:List (AVal×Bool)),qm pr (X pr) k [.ptr 0 0,aE a1] [.cells [(Iv a0.day,I),(sl 5 jc a0.lots,I),(sl 4 qv a0.ae,I),(sl 8 aY a0.units,I)],x1,x2,x3]=En (Iv 0,I,[.cells [(Iv v.2.day,I),(sl 5 jc v.2.lots,I),(sl 4 qv v.2.ae,I),(.ms 5 0 n,I)],x1,x2,x3,b,.cells cs])∧cs.map (·.1)=ze aY (v.2.units.getD [])∧n=(v.2.units.getD []).length∧0<n∧v.2.units.isSome=Gs):=by
 unfold fG at h
 rw[Gn]at h
 split at h
 ·rename_i hk
  rw[Ey hk]
  obtain⟨y,hy,h⟩:=qb h
  cases h
  exact .inl ⟨y.2.2,I,I,zf2 hy,rfl⟩
 rw[Gn]at h
 split at h
 ·rename_i hk
  rw[Ey hk]
  obtain⟨y,hy,h⟩:=qb h
  cases h
  exact .inl ⟨I,y.2.2,I,zio hy,rfl⟩
 rw[Gn]at h
 split at h
 ·rename_i hk
  rw[Ey hk]
  obtain⟨y,hy,h⟩:=qb h
  cases h
  exact .inl ⟨I,I,I,zc1 hy,rfl⟩
 rw[Gn]at h
 split at h
 ·rename_i hk
  rw[Ey hk]
  obtain⟨y,hy,h⟩:=qb h
  cases h
  exact .inl ⟨I,I,I,zlp hy,rfl⟩
 rw[Gn]at h
 split at h
 ·rename_i hk
  rw[Ey hk]
  obtain⟨y,hy,h⟩:=qb h
  cases h
  exact .inl ⟨I,I,I,zfw hy,rfl⟩
 rw[Gn]at h
 split at h
 ·rename_i hk
  rw[Ey hk]
  obtain⟨y,hy,h⟩:=qb h
  cases h
  exact .inl ⟨I,I,y.2.2,ziu hy,rfl⟩
 rw[Gn]at h
 split at h
 ·rename_i hk
  rw[Ey hk]
  obtain⟨y,hy,h⟩:=qb h
  cases h
  exact .inl ⟨I,I,I,zeb hy,rfl⟩
 rw[Gn]at h
 split at h
 ·rename_i hk
  rw[Ey hk]
  obtain⟨y,hy,h⟩:=qb h
  cases h
  exact .inl ⟨I,I,I,zhk hy,rfl⟩
 rw[Gn]at h
 split at h
 ·rename_i hk
  rw[Ey hk]
  obtain⟨y,hy,h⟩:=qb h
  cases h
  exact .inl ⟨I,I,I,zi1 hy,rfl⟩
 rw[Gn]at h
 split at h
 ·rename_i hk
  rw[Ey hk]
  obtain⟨y,hy,h⟩:=qb h
  cases h
  exact .inl ⟨I,I,I,zc6 hy,rfl⟩
 rw[Gn]at h
 split at h
 ·rename_i hk
  rw[Ey hk]
  obtain⟨y,hy,h⟩:=qb h
  cases h
  exact .inl ⟨I,I,I,zhl hy,rfl⟩
 rw[Gn]at h
 split at h
 ·rename_i hk
  rw[Ey hk]
  obtain⟨y,hy,h⟩:=qb h
  cases h
  exact .inl ⟨I,I,I,zfi hy,rfl⟩
 rw[Gn]at h
 split at h
 ·rename_i hk
  rw[Ey hk]
  obtain⟨y,hy,h⟩:=qb h
  cases h
  exact .inl ⟨I,I,I,zfo hy,rfl⟩
 rw[Gn]at h
 split at h
 ·rename_i hk
  rw[Ey hk]
  obtain⟨y,hy,h⟩:=qb h
  cases h
  rcases zer (x1:=x1) (x2:=x2) (x3:=x3) hy with⟨h1,h2,h3⟩|⟨h1,n,b,cs,h2,h3,h4,h5⟩
  ·refine .inl ⟨I,I,I,?_,rfl⟩
   rcases y with⟨y1,y2⟩
   cases h2
   exact h3
  ·refine .inr ⟨h1,rfl,n,b,cs,h2,h3,h4,h5,?_⟩
   show y.2.2.isSome=Gs
   cases hu:y.2.2 with
   |some _=>rfl
   |none=>rw[hu]at h4;simp at h4;omega
 ·cases h
def Jr (x:List UInt8):Nat:=match ph x with
 |some f=>f.2.2.2
 |none=>0
theorem jkn (x:List UInt8):l4 x=fnv (Jr x):=by
 unfold l4 Jr
 cases ph x<;>rfl
theorem jkd {k a0 a1 v}(h:fG k a0 a1=En v):fnv k=.fn (.func k) [] []:=by
 cases hk:Gq k 0 with
 |false=>simp only[fnv,hk,cond_false]
 |true=>rw[Ey hk]at h;cases h
def jU (a0:aj)(a1:GEv):Option (aj×Int):=
 qa (qr (a1.values.getD []) 0) fun v1=>
 cond (decide (v1<a0.day))
  (En (⟨0,Gp,Gp,Gp⟩,20))
  (qa (bm (Fw a0 a1) Gp) fun d48=>match d48 with
   | .inl d50=>
    En (⟨0,Gp,Gp,Gp⟩,10)
   | .inr d51=>
    qa (fG (Jr a1.kind) a0 a1) fun v=>
    cond (decide (v.1=0))
     (En ({ v.2 with day:=v1 },0))
     (En (⟨0,Gp,Gp,Gp⟩,v.1)))
theorem jxz {a0 a1 r}(h:jU a0 a1=En r):qc pr (X pr) 113 [aR a0,aE a1]=En (.aB [aR r.1,Iv r.2],I):=by
 unfold jU at h
 obtain⟨v1,h2,h⟩:=qb h
 rcases qd h with⟨h3,h⟩|⟨h3,h⟩
 ·have hr:(⟨0,Gp,Gp,Gp⟩,20)=r:=En.inj h
  subst hr
  have this:∃hh,qm pr (X pr) 113 [aR a0,aE a1] []=En (.aB [aZ,Iv 20],I,hh):=by
   rw[qn (show pr.bQ 113=En gX from rfl) (by simp)]
   simp only[go_sem,seval,gX,yb h2,h3]
   exact⟨_,rfl⟩
  obtain⟨hh,this⟩:=this
  exact yd rfl this (by first|rfl|simp only[go_sem,seval]) (by first|rfl|simp only[go_sem,seval])
 ·obtain⟨d48,Qo,h⟩:=qb h
  rcases d48 with d50|d51
  ·have pB:X pr (.loop yA) ⟨[(2,.ptr 0 0,I),(3,.ah (aE a1),I),(4,.ptr 1 0,I),(6,.ah (.agg [.str (zc a1.kind),Iv (nP a1.kind),l4 a1.kind]),I),(24,.ptr 3 0,I)],[kR a0.day a0.lots a0.ae a0.units,kZ,.map q9,.iter (zc a1.kind) 0]⟩=En (.ret,⟨[(4,.ptr 1 0,I),(5,Iv 10,I)],[kR a0.day a0.lots a0.ae a0.units,kZ,.map q9,.iter (zc a1.kind) d50]⟩):=jem a0 a1 Qo
   have hr:(⟨0,Gp,Gp,Gp⟩,10)=r:=En.inj h
   subst hr
   have this:∃hh,qm pr (X pr) 113 [aR a0,aE a1] []=En (.aB [aZ,Iv 10],I,hh):=by
    rw[qn (show pr.bQ 113=En gX from rfl) (by simp)]
    simp only[go_sem,seval,gX,yb h2,h3,Nb,pB]
    exact⟨_,rfl⟩
   obtain⟨hh,this⟩:=this
   exact yd rfl this (by first|rfl|simp only[go_sem,seval]) (by first|rfl|simp only[go_sem,seval])
  ·have pB:X pr (.loop yA) ⟨[(2,.ptr 0 0,I),(3,.ah (aE a1),I),(4,.ptr 1 0,I),(6,.ah (.agg [.str (zc a1.kind),Iv (nP a1.kind),l4 a1.kind]),I),(24,.ptr 3 0,I)],[kR a0.day a0.lots a0.ae a0.units,kZ,.map q9,.iter (zc a1.kind) 0]⟩=En (.exit 0,⟨[(2,.ptr 0 0,I),(3,.ah (aE a1),I),(4,.ptr 1 0,I),(6,.ah (.agg [.str (zc a1.kind),Iv (nP a1.kind),l4 a1.kind]),I),(24,.ptr 3 0,I),(25,.aB [.bool I],I),(26,.bool I,I)],[kR a0.day a0.lots a0.ae a0.units,kZ,.map q9,.iter (zc a1.kind) d51]⟩):=jem a0 a1 Qo
   obtain⟨v,hv,h⟩:=qb h
   have hfn:l4 a1.kind=.fn (.func (Jr a1.kind)) [] []:=by rw[jkn];exact jkd hv
   simp only[hfn]at pB
   have af:∀(n:Int) (b:bh),zg 4 (Iv n) [b,kZ,.map q9,.iter (zc a1.kind) d51]=[b,kZ,.map q9,.iter (zc a1.kind) d51]:=fun _ _=>tw rfl
   rcases jhh (x1:=kZ) (x2:=.map q9) (x3:=.iter (zc a1.kind) d51) hv with⟨w1,w2,w3,g,hd⟩|⟨h0,hd,n,b,cs,g,g2,hn,gR,hs⟩
   ·rcases qd h with⟨h5,h⟩|⟨h5,h⟩
    ·cases h
     have this:∃hh,qm pr (X pr) 113 [aR a0,aE a1] []=En (.aB [aG v1 v.2.lots v.2.ae v.2.units,Iv 0],I,hh):=by
      rw[qn (show pr.bQ 113=En gX from rfl) (by simp)]
      simp only[go_sem,seval,gX,yb h2,h3,Nb,pB,hfn,g,af,h5]
      exact⟨_,rfl⟩
     obtain⟨hh,this⟩:=this
     exact yd rfl this (by first|rfl|simp only[go_sem,seval]) (by first|rfl|simp only[go_sem,seval])
    ·cases h
     have this:∃hh,qm pr (X pr) 113 [aR a0,aE a1] []=En (.aB [aZ,Iv v.1],I,hh):=by
      rw[qn (show pr.bQ 113=En gX from rfl) (by simp)]
      simp only[go_sem,seval,gX,yb h2,h3,Nb,pB,hfn,g,af,h5]
      exact⟨_,rfl⟩
     obtain⟨hh,this⟩:=this
     exact yd rfl this (by first|rfl|simp only[go_sem,seval]) (by first|rfl|simp only[go_sem,seval])
   ·have h5:decide (v.1=0)=Gs:=decide_eq_true h0
    rw[h5]at h
    cases h
    have ab:∀(n:Int) (c:bh),zg 4 (Iv n) [c,kZ,.map q9,.iter (zc a1.kind) d51,b,.cells cs]=(bif pF 4 c&&zw 4 [kZ,.map q9,.iter (zc a1.kind) d51]then [c,kZ,.map q9,.iter (zc a1.kind) d51]else [c,kZ,.map q9,.iter (zc a1.kind) d51,b,.cells cs]):=fun _ _=>rfl
    have this:qm pr (X pr) 113 [aR a0,aE a1] []=En (.aB [.agg [Iv v1,sl 5 jc v.2.lots,sl 4 qv v.2.ae,.ms 5 0 n],Iv 0],I,[.cells [(Iv v1,I),(sl 5 jc v.2.lots,I),(sl 4 qv v.2.ae,I),(.ms 5 0 n,I)],.cells [(Iv v1,I),(sl 5 jc v.2.lots,I),(sl 4 qv v.2.ae,I),(.ms 5 0 n,I)],.map q9,.iter (zc a1.kind) d51,b,.cells cs]):=by
     rw[qn (show pr.bQ 113=En gX from rfl) (by simp)]
     simp only[go_sem,seval,gX,yb h2,h3,Nb,pB,hfn,g,(show ∀n,below 4 (.ms 5 0 n)=I from fun _=>rfl),Bool.false_and,Bool.and_false,cond_false]<;>rfl
    have fz:kx [.cells [(Iv v1,I),(sl 5 jc v.2.lots,I),(sl 4 qv v.2.ae,I),(.ms 5 0 n,I)],.cells [(Iv v1,I),(sl 5 jc v.2.lots,I),(sl 4 qv v.2.ae,I),(.ms 5 0 n,I)],.map q9,.iter (zc a1.kind) d51,b,.cells cs] (.ms 5 0 n)=En (sl 8 aY v.2.units):=by
     have hu:v.2.units=En (v.2.units.getD []):=by cases hq:v.2.units with
      |some _=>rfl
      |none=>rw[hq]at hs;cases hs
     rw[hn]at gR ⊢
     rw[hu]
     exact wo et gR g2
    refine yd rfl this (v':=.aB [aG v1 v.2.lots v.2.ae v.2.units,Iv 0]) ?_ (by first|rfl|simp only[go_sem,seval])
    simp only[go_sem,seval,fz]<;>rfl
end Go.Z
end
