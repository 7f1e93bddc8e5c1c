/- Chapter 10. -/
import Derived.Test.YtfopaakmgogpiaaGreatDoorW6
import Derived.Test.YtfopaakmgogpiaaGreatDoorW4
set_option maxRecDepth 100000
set_option maxHeartbeats 4000000
noncomputable section
open Bool renaming false→I,true→E2
open Option renaming some→En,none→E1,isNone_none→E3
namespace Go.Z
open Go Go.Abs Go.W
def Ww (a0:ql)(e0:List (List UInt8×Int)):Option Bool:=
 En (decide ((lY e0 a0.k)<a0.n))
theorem j3d {a0:ql}{e0:List (List UInt8×Int)}{r}(h:Ww a0 e0=En r):zg pr (X pr) 211 [aN a0,.ah (.map 0)] [.map (eg e0)]=En (.bool r,I,[.map (eg e0)]):=by
 unfold Ww at h
 have hr:decide ((lY e0 a0.k)<a0.n)=r:=En.inj h
 subst hr
 rw[zh (show pr.bL 211=En sL from rfl) (by simp)]
 simp only[go_sem,seval,sL,jkn]<;>rfl
def N9 (a0:Option (List ql))(e0:List (List UInt8×Int))(s0:Int):Option (Int⊕(Int⊕Int)):=
 cond (decide (s0<((a0.getD []).length:Int)))
  (jx (zp (a0.getD []) s0) fun dz=>
  jx (Ww dz e0) fun dm=>
  cond dm
   (En (.inr (.inl s0)))
   (En (.inl (j9 .i64 (s0+1)))))
  (En (.inr (.inr s0)))
def IX (a0:Option (List ql))(e0:List (List UInt8×Int))(s0:Int):qg:=⟨[(0,sl 2 aS a0,I),(1,.fn (.func 211) [] [.ah (.map 0)],I),(7,Lv a0,I),(8,Iv s0,I)],[.map (eg e0)]⟩
def IY (a0:Option (List ql))(e0:List (List UInt8×Int)):Int⊕Int→qo×qg
 | .inl d=>(.ret,⟨[(4,Iv d,I)],[.map (eg e0)]⟩)
 | .inr d=>(.exit 0,⟨[(0,sl 2 aS a0,I),(1,.fn (.func 211) [] [.ah (.map 0)],I),(7,Lv a0,I),(8,Iv d,I),(9,.bool I,I)],[.map (eg e0)]⟩)
theorem jlw (a0:Option (List ql))(e0:List (List UInt8×Int))(s0:Int)(r)(h:N9 a0 e0 s0=En r):yo pr lF (IX a0 e0) (IY a0 e0) s0 r:=by
 unfold N9 at h
 repeat' first|(replace h:=jy h;obtain⟨d,g,h⟩:=h;with_reducible first|replace g:=j3d g|skip)|(replace h:=j6 h;rcases h with⟨g,h⟩|⟨g,h⟩)|fail
 all_goals (cases h<;>(first|(refine zy ?_;simp only[go_sem,seval,lF,IX,zn,IY, *]<;>rfl)|(refine yh ?_;simp only[go_sem,seval,lF,IX,zn,IY, *]<;>rfl)))
theorem jk9 (a0:Option (List ql))(e0:List (List UInt8×Int)){s0:Int}{d}(h:bf (N9 a0 e0) s0=En d):X pr (.loop lF) (IX a0 e0 s0)=En (IY a0 e0 d):=yz (jlw a0 e0) (fun d=>by rcases d with d|d<;>(intro hh;cases hh)) h
def GJ (a0:Option (List ql))(e0:List (List UInt8×Int)):Option Int:=
 jx (bf (N9 a0 e0) 0) fun d19=>match d19 with
  | .inl d21=>
   En d21
  | .inr d22=>
   En (-1)
theorem j50 {a0:Option (List ql)}{e0:List (List UInt8×Int)}{r}(h:GJ a0 e0=En r):zg pr (X pr) 235 [sl 2 aS a0,.fn (.func 211) [] [.ah (.map 0)]] [.map (eg e0)]=En (Iv r,I,[.map (eg e0)]):=by
 unfold GJ at h
 rw[zh (show pr.bL 235=En iu from rfl) (by simp)]
 repeat' first|(replace h:=jy h;obtain⟨d,g,h⟩:=h;with_reducible first|(replace g:=jk9 a0 e0 g;rcases d with d|d<;>dsimp only[IX,IY,y8]at g h)|skip)|(replace h:=j6 h;rcases h with⟨g,h⟩|⟨g,h⟩)|fail
 all_goals (cases h<;>(simp only[go_sem,seval,iu, *]<;>rfl))
def GI (a0:Option (List ql))(e0:List (List UInt8×Int)):Option Bool:=
 jx (GJ a0 e0) fun v1=>
 En (decide (0≤v1))
theorem j1a {a0:Option (List ql)}{e0:List (List UInt8×Int)}{r}(h:GI a0 e0=En r):zg pr (X pr) 168 [sl 2 aS a0,.fn (.func 211) [] [.ah (.map 0)]] [.map (eg e0)]=En (.bool r,I,[.map (eg e0)]):=by
 unfold GI at h
 obtain⟨v1,h2,h⟩:=jy h
 have rH:zg pr (X pr) 235 [sl 2 aS a0,.fn (.func 211) [] [.ah (.map 0)]] [.map (eg e0)]=En (Iv v1,I,[.map (eg e0)]):=j50 h2
 have hr:decide (0≤v1)=r:=En.inj h
 subst hr
 rw[zh (show pr.bL 168=En kB from rfl) (by simp)]
 simp only[go_sem,seval,kB,rH]<;>rfl
def f143 (a0:qj):Option Bool:=
 En a0.held
theorem zh1 (hp:j8){a0:qj}{r}(h:f143 a0=En r):zg pr (X pr) 143 [aL a0] hp=En (.bool r,I,hp):=by
 unfold f143 at h
 have hr:a0.held=r:=En.inj h
 subst hr
 rw[zh (show pr.bL 143=En sM from rfl) (by simp)]
 simp only[go_sem,seval,sM]<;>rfl
def GK (a0:Option (List qj))(s0:(Option (List qj))×Int×Bool):Option (((Option (List qj))×Int×Bool)⊕(((Option (List qj))×Bool×Int))):=
 cond (decide (s0.2.1<((a0.getD []).length:Int)))
  (jx (zp (a0.getD []) s0.2.1) fun v20=>
  jx (f143 v20) fun ea=>
  cond ea
   (cond s0.2.2
    (jx (bg s0.1 [v20]) fun eI=>
    En (.inl (eI,j9 .i64 (s0.2.1+1),E2)))
    (cond s0.1.isNone
     (jx (bg s0.1 [v20]) fun fk=>
     En (.inl (fk,j9 .i64 (s0.2.1+1),E2)))
     (E1)))
   (En (.inl (s0.1,j9 .i64 (s0.2.1+1),s0.2.2))))
  (En (.inr (s0.1,s0.2.2,s0.2.1)))
def IZ (a0:Option (List qj))(s0:(Option (List qj))×Int×Bool):qg:=⟨[(1,.fn (.func 143) [] [],I),(5,sl 5 z8 s0.1,s0.2.2),(8,sl 5 z8 a0,I),(9,Lv a0,I),(10,Iv s0.2.1,I)],[]⟩
def I0 (a0:Option (List qj))(d:((Option (List qj))×Bool×Int)):qo×qg:=(.exit 0,⟨[(1,.fn (.func 143) [] [],I),(5,sl 5 z8 d.1,d.2.1),(8,sl 5 z8 a0,I),(9,Lv a0,I),(10,Iv d.2.2,I),(11,.bool I,I)],[]⟩)
theorem jsd (a0:Option (List qj))(s0:(Option (List qj))×Int×Bool)(r)(h:GK a0 s0=En r):yo pr I1 (IZ a0) (I0 a0) s0 r:=by
 unfold GK at h
 repeat' first|(replace h:=jy h;obtain⟨d,g,h⟩:=h;with_reducible first|replace g:=zh1 [] g|replace g:=Ni g|skip)|(replace h:=j6 h;rcases h with⟨g,h⟩|⟨g,h⟩)|fail
 all_goals (cases h<;>(first|(refine zy ?_;simp only[go_sem,seval,I1,IZ,zn,I0, *]<;>rfl)|(refine yh ?_;simp only[go_sem,seval,I1,IZ,zn,I0, *]<;>rfl)))
theorem js6 (a0:Option (List qj)){s0:(Option (List qj))×Int×Bool}{d}(h:bf (GK a0) s0=En d):X pr (.loop I1) (IZ a0 s0)=En (I0 a0 d):=yz (jsd a0) (fun d hh=>by cases hh) h
def f142 (a0:Option (List qj)):Option ((Option (List qj))×Bool):=
 jx (bf (GK a0) (E1,0,I)) fun d31=>
 En (d31.1,d31.2.1)
theorem zcu {a0:Option (List qj)}{r}(h:f142 a0=En r):jz pr (X pr) 142 [sl 5 z8 a0,.fn (.func 143) [] []]=En (sl 5 z8 r.1,r.2):=by
 unfold f142 at h
 refine eU sN ?_
 repeat' first|(replace h:=jy h;obtain⟨d,g,h⟩:=h;with_reducible first|(replace g:=js6 a0 g;dsimp only[IZ,I0,y8]at g h)|skip)|(replace h:=j6 h;rcases h with⟨g,h⟩|⟨g,h⟩)|fail
 all_goals (cases h<;>(simp only[go_sem,seval,sN, *];exact⟨_,rfl⟩))
end Go.Z
namespace Go.Z
open Go Go.Abs Go.W
def lH:qf→qf
 | .seq a _=>a
 |x=>x
def gS:qf→qf
 | .seq _ b=>b
 |x=>x
def Bc:qf→qf
 | .block _ b=>b
 |x=>x
def Oa:qf→qf
 | .rangeFunc _ _ a _=>a
 |x=>x
def I2:qf→qf
 | .rangeFunc _ _ _ b=>b
 |x=>x
theorem qwj {n:Nat}{v:qa}{h t:j8}(hn:h.length=n)(hv:Abs.below n v=E2)(hb:kh n h=E2):yq n v (h++t)=h:=by
 have ht:(h++t).take n=h:=by rw[←hn,List.take_left'];rfl
 unfold yq
 rw[ht,hv,hb]
 cases hc:Nat.ble (h++t).length n with
 |true=>
  have:=Nat.le_of_ble_eq_true hc
  rw[List.length_append,hn]at this
  have:t=[]:=List.eq_nil_of_length_eq_zero (by omega)
  subst this;simp
 |false=>rfl
theorem sg {n:Nat}{v:qa}{h:j8}(hn:h.length=n):yq n v h=h:=by
 unfold yq
 rw[Nat.ble_eq_true_of_le (by omega)];rfl
section
variable {σ:Type}(r:qc)(u:qe)(H:σ→j8)(step:σ→qj→Int→Option σ)
def og (x:Int×σ):Option ((Int×σ)⊕(Int×σ)):=
 cond (decide (x.1<((u.uses.getD []).length:Int)))
  (jx (zp (u.uses.getD []) x.1) fun s=>jx (f72 r s.k) fun v=>jx (zp (r.au.getD []) v) fun l=>jx (step x.2 l s.n) fun y=>En (.inl (j9 .i64 (x.1+1),y)))
  (En (.inr x))
def Ec (x:Int×σ):qg:=⟨[(0,.fn (.yield 1) [] [],I),(2,.ah (aR r),I),(7,sl 2 aS u.uses,I),(8,Lv u.uses,I),(9,Iv x.1,I)],H x.2⟩
def Ob (x:Int×σ):qo×qg:=(.exit 0,⟨[(0,.fn (.yield 1) [] [],I),(2,.ah (aR r),I),(7,sl 2 aS u.uses,I),(8,Lv u.uses,I),(9,Iv x.1,I),(10,.bool I,I)],H x.2⟩)
theorem zaq (hy:∀x l n y,step x l n=En y→jG (X pr) 1 [aL l,Iv n] (H x)=En (.bool E2,H y))(hl:∀x,(H x).length=2)(x:Int×σ)(q)(h:og r u step x=En q):yo pr I3 (Ec r u H) (Ob r u H) x q:=by
 unfold og at h
 rcases j6 h with⟨h1,h⟩|⟨h1,h⟩
 ·obtain⟨s,h2,h⟩:=jy h
  obtain⟨v,h3,h⟩:=jy h
  obtain⟨l,h4,h⟩:=jy h
  obtain⟨y,h5,h⟩:=jy h
  cases h
  have g:=hy _ _ _ _ h5
  have w:=D9 h3
  exact DC (bJ:=Ec r u H (j9 .i64 (x.1+1),y)) (by simp only[go_sem,seval,I3,Ec,h1,ko h2,w,ko h4,g]<;>rfl) (Gc (by show(H y).length≤(H x.2).length;rw[hl,hl];exact Nat.le_refl _))
 ·cases h
  exact zy (by simp only[go_sem,seval,I3,Ec,h1,Ob]<;>rfl)
theorem jn4 {r:qc}{u:qe}{H:σ→j8}{step:σ→qj→Int→Option σ}(hy:∀x l n y,step x l n=En y→jG (X pr) 1 [aL l,Iv n] (H x)=En (.bool E2,H y))(hl:∀x,(H x).length=2){x0:σ}{d}(h:bf (og r u step) (0,x0)=En d):zg pr (X pr) 210 [.fn (.yield 1) [] [],.ah (aU u),.ah (aR r)] (H x0)=En (.aC [],I,H d.2):=by
 have h1:X pr (.loop I3) (Ec r u H (0,x0))=En (Ob r u H d):=yz (zaq r u H step hy hl) (fun d=>by intro hh;cases hh) h
 rw[zh (show pr.bL 210=En sO from rfl) (by simp)]
 simp only[Ec,Ob]at h1
 simp only[go_sem,seval,sO,h1]<;>rfl
end
def vY:qf:=Bc (gS (lH (gS (gS pk.body))))
def sP:qf:=Oa vY
def pn:qf:=I2 vY
theorem jmv:vY=.rangeFunc (.tmp 9) [10,11] sP pn:=rfl
def lI (r:qc)(u:qe):Env:=[(2,.ah (aR r),I),(3,.ah (aU u),I),(5,.ptr 0 0,I),(9,.fn (.func 210) [] [.ah (aU u),.ah (aR r)],I)]
def Bd (o:Option (List qj)):j8:=[.cells [(sl 5 z8 o,o.isSome)]]
def iR (r:qc)(u:qe)(pd:Option qo)(o:Option (List qj)):j8:=[.cells [(sl 5 z8 o,o.isSome)],.loop ⟨lI r u,[10,11],sP,pn,pd⟩]
def Wx (r:qc)(u:qe)(l:qj)(n:Int):Env:=(([10,11][1]),Iv n,I)::(([10,11][0]),aL l,I)::lI r u
def Oc (r:qc)(u:qe)(l:qj)(n:Int):Env:=[(2,.ah (aR r),I),(3,.ah (aU u),I),(5,.ptr 0 0,I),(6,.ah (aL l),I)]
theorem j9v {r:qc}{u:qe}{l:qj}{n:Int}:uY (eQ (lI r u)) [10,11] [aL l,Iv n]=En (Wx r u l n):=rfl
theorem jg0 {r:qc}{u:qe}{l:qj}{n:Int}{H:j8}:X pr sP ⟨Wx r u l n,H⟩=En (.normal,⟨Oc r u l n,H⟩):=by
 simp only[go_sem,seval,sP,Oa,vY,Bc,lH,gS,pk,Wx,lI,List.getElem_cons_zero,List.getElem_cons_succ]<;>rfl
def xp (o:Option (List qj))(l:qj)(_:Int):Option (Option (List qj)):=bg o [l]
theorem jhc {r:qc}{u:qe}{l:qj}{n:Int}{pd:Option qo}{o o':Option (List qj)}(ho:xp o l n=En o'):∃e t,X pr pn ⟨Oc r u l n,iR r u pd o⟩=En (.normal,⟨e,iR r u pd o'++t⟩):=by
 unfold xp at ho
 have hs:o'.isSome=E2:=by
  cases o' with
  |some _=>rfl
  |none=>cases o<;>simp[bg,DM]at ho
 cases o with
 |none=>
  have ap:=fun(b:Nat) (h:j8) (bb:Bool)=>qwh (b:=b) (h:=h) (bb:=bb) ho rfl
  simp only[go_sem,seval,pn,I2,vY,Bc,lH,gS,pk,Oc,iR,ap,Option.isSome_none,hs]
  exact⟨_,_,rfl⟩
 |some o=>
  have ap:=fun(b t:Nat) (h:j8) (bb:Bool)=>qw4 (b:=b) (t:=t) (h:=h) (bb:=bb) ho
  simp only[go_sem,seval,pn,I2,vY,Bc,lH,gS,pk,Oc,iR,ap,Option.isSome_some,hs]
  exact⟨_,_,rfl⟩
theorem jcu {r:qc}{u:qe}{pd:Option qo}{o:Option (List qj)}:kh 2 (iR r u pd o)=E2:=by
 simp only[go_sem,seval,iR,kh,oG,oF,l6,lI]<;>rfl
theorem y75 {r:qc}{u:qe}{l:qj}{n:Int}{o o':Option (List qj)}(ho:xp o l n=En o'):jG (X pr) 1 [aL l,Iv n] (iR r u E1 o)=En (.bool E2,iR r u E1 o'):=by
 have g:∀o pd t,y5 (iR r u pd o++t) 1=En (.loop ⟨lI r u,[10,11],sP,pn,pd⟩):=fun _ _ _=>rfl
 have g0:∀o pd,y5 (iR r u pd o) 1=En (.loop ⟨lI r u,[10,11],sP,pn,pd⟩):=fun _ _=>rfl
 have st:∀o pd sQ t,(iR r u pd o++t).set 1 (.loop ⟨lI r u,[10,11],sP,pn,sQ⟩)=iR r u sQ o++t:=fun _ _ _ _=>rfl
 have Wy:∀o pd sQ,(iR r u pd o).set 1 (.loop ⟨lI r u,[10,11],sP,pn,sQ⟩)=iR r u sQ o:=fun _ _ _=>rfl
 have hl:∀o pd,(iR r u pd o).length=2:=fun _ _=>rfl
 have ha:∀o pd v t,Abs.below 2 v=E2→yq 2 v (iR r u pd o++t)=iR r u pd o:=fun _ _ _ _ hv=>qwj rfl hv jcu
 obtain⟨e,t,hx⟩:=jhc (r:=r) (u:=u) (n:=n) (pd:=En .normal) ho
 unfold jG
 simp only[g0,j9v,jg0,E3,cT,Wy,hl,hx,g,st]
 rw[ha _ _ _ _ rfl]
theorem jme {r:qc}{u:qe}{o:Option (List qj)}{d}(h:bf (og r u xp) (0,o)=En d):X pr vY ⟨lI r u,Bd o⟩=En (.normal,⟨lI r u,Bd d.2⟩):=by
 have h1:=jn4 (H:=iR r u E1) (fun x l n y hs=>y75 hs) (fun _=>rfl) h
 have hb:∀o,kh 1 (Bd o)=E2:=by
  intro o
  simp only[go_sem,seval,Bd,kh,oG,oF]<;>rfl
 rw[jmv,T5]
 unfold l9
 have hn:(kn sP&&kn pn)=E2:=rfl
 have he:zd (lI r u) (.tmp 9)=En (.fn (.func 210) [] [.ah (aU u),.ah (aR r)]):=rfl
 have hl:∀o,(Bd o).length=1:=fun _=>rfl
 have qA:∀o,Bd o++[.loop ⟨lI r u,[10,11],sP,pn,E1⟩]=iR r u E1 o:=fun _=>rfl
 have hg:∀o,y5 (iR r u E1 o) 1=En (.loop ⟨lI r u,[10,11],sP,pn,E1⟩):=fun _=>rfl
 have ht:∀o,(iR r u E1 o).take 1=Bd o:=fun _=>rfl
 simp only[hn,cT,he,hl,List.nil_append,List.cons_append,qA,h1,hg,ht,hb]
def xW:qf:=Bc (gS (lH (gS (gS iz.body))))
def sR:qf:=Oa xW
def sS:qf:=I2 xW
theorem jeh:xW=.rangeFunc (.tmp 11) [12,13] sR sS:=rfl
def lJ (r:qc)(u:qe):Env:=[(2,.ah (aR r),I),(3,.ah (aU u),I),(5,.ah (.map 0),I),(11,.fn (.func 210) [] [.ah (aU u),.ah (aR r)],I)]
def Be (o:List (List UInt8×Int)):j8:=[.map (eg o)]
def jF (r:qc)(u:qe)(pd:Option qo)(o:List (List UInt8×Int)):j8:=[.map (eg o),.loop ⟨lJ r u,[12,13],sR,sS,pd⟩]
def Wz (r:qc)(u:qe)(l:qj)(n:Int):Env:=(([12,13][1]),Iv n,I)::(([12,13][0]),aL l,I)::lJ r u
def WA (r:qc)(u:qe)(l:qj)(n:Int):Env:=[(2,.ah (aR r),I),(3,.ah (aU u),I),(5,.ah (.map 0),I),(6,.ah (aL l),I),(7,Iv n,I)]
theorem j6s {r:qc}{u:qe}{l:qj}{n:Int}:uY (eQ (lJ r u)) [12,13] [aL l,Iv n]=En (Wz r u l n):=rfl
theorem jbz {r:qc}{u:qe}{l:qj}{n:Int}{H:j8}:X pr sR ⟨Wz r u l n,H⟩=En (.normal,⟨WA r u l n,H⟩):=by
 simp only[go_sem,seval,sR,Oa,xW,Bc,lH,gS,iz,Wz,lJ,List.getElem_cons_zero,List.getElem_cons_succ]<;>rfl
def vz (o:List (List UInt8×Int))(l:qj)(n:Int):Option (List (List UInt8×Int)):=Np o l.kind (j9 .i64 (lY o l.kind+n))
theorem jcd {r:qc}{u:qe}{l:qj}{n:Int}{pd:Option qo}{o o':List (List UInt8×Int)}(ho:vz o l n=En o'):∃e t,X pr sS ⟨WA r u l n,jF r u pd o⟩=En (.normal,⟨e,jF r u pd o'++t⟩):=by
 unfold vz at ho
 simp only[go_sem,seval,sS,I2,xW,Bc,lH,gS,iz,WA,jF,jkn,jpf ho]
 exact⟨_,_,rfl⟩
theorem q8g {r:qc}{u:qe}{pd:Option qo}{o:List (List UInt8×Int)}:kh 2 (jF r u pd o)=E2:=by
 simp only[go_sem,seval,jF,kh,oG,oF,l6,lJ]<;>rfl
theorem zb3 {r:qc}{u:qe}{l:qj}{n:Int}{o o':List (List UInt8×Int)}(ho:vz o l n=En o'):jG (X pr) 1 [aL l,Iv n] (jF r u E1 o)=En (.bool E2,jF r u E1 o'):=by
 have g:∀o pd t,y5 (jF r u pd o++t) 1=En (.loop ⟨lJ r u,[12,13],sR,sS,pd⟩):=fun _ _ _=>rfl
 have g0:∀o pd,y5 (jF r u pd o) 1=En (.loop ⟨lJ r u,[12,13],sR,sS,pd⟩):=fun _ _=>rfl
 have st:∀o pd sQ t,(jF r u pd o++t).set 1 (.loop ⟨lJ r u,[12,13],sR,sS,sQ⟩)=jF r u sQ o++t:=fun _ _ _ _=>rfl
 have Wy:∀o pd sQ,(jF r u pd o).set 1 (.loop ⟨lJ r u,[12,13],sR,sS,sQ⟩)=jF r u sQ o:=fun _ _ _=>rfl
 have hl:∀o pd,(jF r u pd o).length=2:=fun _ _=>rfl
 have ha:∀o pd v t,Abs.below 2 v=E2→yq 2 v (jF r u pd o++t)=jF r u pd o:=fun _ _ _ _ hv=>qwj rfl hv q8g
 obtain⟨e,t,hx⟩:=jcd (r:=r) (u:=u) (n:=n) (pd:=En .normal) ho
 unfold jG
 simp only[g0,j6s,jbz,E3,cT,Wy,hl,hx,g,st]
 rw[ha _ _ _ _ rfl]
theorem jf6 {r:qc}{u:qe}{o:List (List UInt8×Int)}{d}(h:bf (og r u vz) (0,o)=En d):X pr xW ⟨lJ r u,Be o⟩=En (.normal,⟨lJ r u,Be d.2⟩):=by
 have h1:=jn4 (H:=jF r u E1) (fun x l n y hs=>zb3 hs) (fun _=>rfl) h
 have hb:∀o,kh 1 (Be o)=E2:=by
  intro o
  simp only[go_sem,seval,Be,kh,oG,oF]<;>rfl
 rw[jeh,T5]
 unfold l9
 have hn:(kn sR&&kn sS)=E2:=rfl
 have he:zd (lJ r u) (.tmp 11)=En (.fn (.func 210) [] [.ah (aU u),.ah (aR r)]):=rfl
 have hl:∀o,(Be o).length=1:=fun _=>rfl
 have qA:∀o,Be o++[.loop ⟨lJ r u,[12,13],sR,sS,E1⟩]=jF r u E1 o:=fun _=>rfl
 have hg:∀o,y5 (jF r u E1 o) 1=En (.loop ⟨lJ r u,[12,13],sR,sS,E1⟩):=fun _=>rfl
 have ht:∀o,(jF r u E1 o).take 1=Be o:=fun _=>rfl
 simp only[hn,cT,he,hl,List.nil_append,List.cons_append,qA,h1,hg,ht,hb]
end Go.Z
namespace Go.Z
open Go Go.Abs Go.W
theorem jon {hp:j8}{r:qc}{u:qe}:zg pr (X pr) 139 [aR r,aU u] hp=En (.fn (.func 210) [] [.ah (aU u),.ah (aR r)],I,hp):=by
 rw[zh (show pr.bL 139=En sT from rfl) (by simp)]
 simp only[go_sem,seval,sT]<;>rfl
def f141 (r:qc)(u:qe):Option Bool:=
 jx (bf (og r u vz) (0,[])) fun d=>jx (f134 r u) fun doc=>jx (GI doc.ax d.2) fun b=>En (!b)
def jb3:qf:=lH iz.body
def jb0:qf:=lH (gS iz.body)
def jct:qf:=lH (lH (gS (gS iz.body)))
def jba:qf:=gS (gS (gS iz.body))
theorem zge {r:qc}{u:qe}{q}(h:f141 r u=En q):jz pr (X pr) 141 [aR r,aU u]=En (.bool q,I):=by
 unfold f141 at h
 obtain⟨d,h1,h⟩:=jy h
 obtain⟨doc,h2,h⟩:=jy h
 obtain⟨b,h3,h⟩:=jy h
 cases h
 have hx:X pr xW ⟨lJ r u,[.map []]⟩=En (.normal,⟨lJ r u,[.map (eg d.2)]⟩):=jf6 h1
 have w1:=jon (hp:=[.map []]) (r:=r) (u:=u)
 have ha:yq 1 (.fn (.func 210) [] [.ah (aU u),.ah (aR r)]) ([.map []]:j8)=[.map []]:=sg rfl
 have w2:jz pr (X pr) 134 [aR r,aU u]=En (aD doc,I):=NY h2
 have w3:=j1a h3
 have hb:yq 1 (.bool b) ([.map (eg d.2)]:j8)=[.map (eg d.2)]:=sg rfl
 have this:∃hh,zg pr (X pr) 141 [aR r,aU u] []=En (.bool (!b),I,hh):=by
  rw[zh (show pr.bL 141=En ⟨27,.seq jb3 (.seq jb0 (.seq (.seq jct (.block 0 xW)) jba)),[.tmp 4]⟩from rfl) (by simp)]
  simp only[lJ]at hx
  simp only[go_sem,seval,jb3,jb0,jct,jba,lH,gS,iz,w1,ha,w2,w3,hb,hx]
  exact⟨_,rfl⟩
 obtain⟨hh,this⟩:=this
 exact ky rfl this (by first|rfl|simp only[go_sem,seval]) (by first|rfl|simp only[go_sem,seval])
def f75 (r:qc)(u:qe):Option Int:=
 jx (bf (og r u xp) (0,E1)) fun d=>jx (f53 u.ar 21) fun e1=>jx (f140 r u) fun lt=>jx (f53 (!decide (u.version=lt)) 32) fun e2=>jx (f141 r u) fun c=>jx (f53 (!c) 20) fun e3=>
 jx (f74 r u) fun m=>jx (f53 (decide (0<((m.1.getD []).length:Int))) 31) fun e4=>jx (f142 d.2) fun hd=>jx (f53 (decide (0<((hd.1.getD []).length:Int))) 34) fun e5=>f51 (En [e1,e2,e3,e4,e5])
def jka:qf:=lH pk.body
def jj1:qf:=lH (gS pk.body)
def jkf:qf:=lH (lH (gS (gS pk.body)))
def jj3:qf:=gS (gS (gS pk.body))
theorem W75 {r:qc}{u:qe}{q}(h:f75 r u=En q):jz pr (X pr) 75 [aR r,aU u]=En (Iv q,I):=by
 unfold f75 at h
 obtain⟨d,h1,h⟩:=jy h
 obtain⟨e1,g1,h⟩:=jy h
 obtain⟨lt,h2,h⟩:=jy h
 obtain⟨e2,g2,h⟩:=jy h
 obtain⟨c,h3,h⟩:=jy h
 obtain⟨e3,g3,h⟩:=jy h
 obtain⟨m,h4,h⟩:=jy h
 obtain⟨e4,g4,h⟩:=jy h
 obtain⟨hd,h5,h⟩:=jy h
 obtain⟨e5,g5,h⟩:=jy h
 have hx:X pr vY ⟨lI r u,[.cells [(Nl,I)]]⟩=En (.normal,⟨lI r u,[.cells [(sl 5 z8 d.2,d.2.isSome)]]⟩):=jme h1
 have w1:=jon (hp:=[.cells [(Nl,I)]]) (r:=r) (u:=u)
 have ha:yq 1 (.fn (.func 210) [] [.ah (aU u),.ah (aR r)]) ([.cells [(Nl,I)]]:j8)=[.cells [(Nl,I)]]:=sg rfl
 have k1:=gp g1
 have w2:jz pr (X pr) 140 [aR r,aU u]=En (Iv lt,I):=jou h2
 have k2:=gp g2
 have w3:=zge h3
 have k3:=gp g3
 have w4:jz pr (X pr) 74 [aR r,aU u]=En (sl 1 qag m.1,m.2):=W74 h4
 have k4:=gp g4
 have w5:=zcu h5
 have k5:=gp g5
 have k6:jz pr (X pr) 51 [.list I 1 [Iv e1,Iv e2,Iv e3,Iv e4,Iv e5]]=En (Iv q,I):=l5 h
 have this:∃hh,zg pr (X pr) 75 [aR r,aU u] []=En (Iv q,I,hh):=by
  rw[zh (show pr.bL 75=En ⟨44,.seq jka (.seq jj1 (.seq (.seq jkf (.block 0 vY)) jj3)),[.tmp 4]⟩from rfl) (by simp)]
  simp only[lI]at hx
  simp only[go_sem,seval,jka,jj1,jkf,jj3,lH,gS,pk,w1,ha,k1,w2,k2,w3,k3,w4,k4,w5,k5,k6,hx]
  exact⟨_,rfl⟩
 obtain⟨hh,this⟩:=this
 exact ky rfl this (by first|rfl|simp only[go_sem,seval]) (by first|rfl|simp only[go_sem,seval])
end Go.Z
end
