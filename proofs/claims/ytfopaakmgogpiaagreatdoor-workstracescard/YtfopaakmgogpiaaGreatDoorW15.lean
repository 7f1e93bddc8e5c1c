/- Chapter 10. -/
import Derived.Test.YtfopaakmgogpiaaGreatDoorW6
import Derived.Test.YtfopaakmgogpiaaGreatDoorW4
set_option linter.unusedVariables false
set_option linter.unusedSimpArgs false
set_option maxRecDepth 100000
set_option maxHeartbeats 4000000
noncomputable section
open Bool renaming false→I,true→En
open Option renaming some→Eh,none→El,isNone_none→Eo
namespace Go.Z
open Go Go.Abs Go.W
def Wu (a0:qk)(e0:List (List UInt8×Int)):Option Bool:=
 Eh (decide ((l4 e0 a0.k)<a0.n))
theorem j27 {a0:qk}{e0:List (List UInt8×Int)}{r}(h:Wu a0 e0=Eh r):zg pr (X pr) 211 [aN a0,.ah (.map 0)] [.map (en e0)]=Eh (.bool r,I,[.map (en e0)]):=by
 unfold Wu at h
 have hr:decide ((l4 e0 a0.k)<a0.n)=r:=Eh.inj h
 subst hr
 rw[zh (show pr.bH 211=Eh sW from rfl) (by simp)]
 simp only[go_sem,seval,sW,jj6]<;>rfl
def Oq (a0:Option (List qk))(e0:List (List UInt8×Int))(s0:Int):Option (Int⊕(Int⊕Int)):=
 cond (decide (s0<((a0.getD []).length:Int)))
  (jx (zq (a0.getD []) s0) fun ei=>
  jx (Wu ei e0) fun dE=>
  cond dE
   (Eh (.inr (.inl s0)))
   (Eh (.inl (j9 .i64 (s0+1)))))
  (Eh (.inr (.inr s0)))
def Jj (a0:Option (List qk))(e0:List (List UInt8×Int))(s0:Int):qh:=⟨[(0,sl 2 aV a0,I),(1,.fn (.func 211) [] [.ah (.map 0)],I),(7,Lv a0,I),(8,Iv s0,I)],[.map (en e0)]⟩
def Jk (a0:Option (List qk))(e0:List (List UInt8×Int)):Int⊕Int→qo×qh
 | .inl d=>(.ret,⟨[(4,Iv d,I)],[.map (en e0)]⟩)
 | .inr d=>(.exit 0,⟨[(0,sl 2 aV a0,I),(1,.fn (.func 211) [] [.ah (.map 0)],I),(7,Lv a0,I),(8,Iv d,I),(9,.bool I,I)],[.map (en e0)]⟩)
theorem jmh (a0:Option (List qk))(e0:List (List UInt8×Int))(s0:Int)(r)(h:Oq a0 e0 s0=Eh r):y5 pr lI (Jj a0 e0) (Jk a0 e0) s0 r:=by
 unfold Oq at h
 repeat' first|(replace h:=jy h;obtain⟨d,g,h⟩:=h;with_reducible first|replace g:=j27 g|skip)|(replace h:=j6 h;rcases h with⟨g,h⟩|⟨g,h⟩)|fail
 all_goals (cases h<;>(first|(refine z6 ?_;simp only[go_sem,seval,lI,Jj,zn,Jk, *]<;>rfl)|(refine yo ?_;simp only[go_sem,seval,lI,Jj,zn,Jk, *]<;>rfl)))
theorem jlu (a0:Option (List qk))(e0:List (List UInt8×Int)){s0:Int}{d}(h:bj (Oq a0 e0) s0=Eh d):X pr (.loop lI) (Jj a0 e0 s0)=Eh (Jk a0 e0 d):=kl (jmh a0 e0) (fun d=>by rcases d with d|d<;>(intro hh;cases hh)) h
def Hd (a0:Option (List qk))(e0:List (List UInt8×Int)):Option Int:=
 jx (bj (Oq a0 e0) 0) fun d19=>match d19 with
  | .inl d21=>
   Eh d21
  | .inr d22=>
   Eh (-1)
theorem jz6 {a0:Option (List qk)}{e0:List (List UInt8×Int)}{r}(h:Hd a0 e0=Eh r):zg pr (X pr) 235 [sl 2 aV a0,.fn (.func 211) [] [.ah (.map 0)]] [.map (en e0)]=Eh (Iv r,I,[.map (en e0)]):=by
 unfold Hd at h
 rw[zh (show pr.bH 235=Eh iy from rfl) (by simp)]
 repeat' first|(replace h:=jy h;obtain⟨d,g,h⟩:=h;with_reducible first|(replace g:=jlu a0 e0 g;rcases d with d|d<;>dsimp only[Jj,Jk,ki]at g h)|skip)|(replace h:=j6 h;rcases h with⟨g,h⟩|⟨g,h⟩)|fail
 all_goals (cases h<;>(simp only[go_sem,seval,iy, *]<;>rfl))
def Hc (a0:Option (List qk))(e0:List (List UInt8×Int)):Option Bool:=
 jx (Hd a0 e0) fun v1=>
 Eh (decide (0≤v1))
theorem j10 {a0:Option (List qk)}{e0:List (List UInt8×Int)}{r}(h:Hc a0 e0=Eh r):zg pr (X pr) 168 [sl 2 aV a0,.fn (.func 211) [] [.ah (.map 0)]] [.map (en e0)]=Eh (.bool r,I,[.map (en e0)]):=by
 unfold Hc at h
 obtain⟨v1,h2,h⟩:=jy h
 have rS:zg pr (X pr) 235 [sl 2 aV a0,.fn (.func 211) [] [.ah (.map 0)]] [.map (en e0)]=Eh (Iv v1,I,[.map (en e0)]):=jz6 h2
 have hr:decide (0≤v1)=r:=Eh.inj h
 subst hr
 rw[zh (show pr.bH 168=Eh kL from rfl) (by simp)]
 simp only[go_sem,seval,kL,rS]<;>rfl
def f143 (a0:qj):Option Bool:=
 Eh a0.held
theorem zg7 (hp:j8){a0:qj}{r}(h:f143 a0=Eh r):zg pr (X pr) 143 [aL a0] hp=Eh (.bool r,I,hp):=by
 unfold f143 at h
 have hr:a0.held=r:=Eh.inj h
 subst hr
 rw[zh (show pr.bH 143=Eh sX from rfl) (by simp)]
 simp only[go_sem,seval,sX]<;>rfl
def He (a0:Option (List qj))(s0:(Option (List qj))×Int×Bool):Option (((Option (List qj))×Int×Bool)⊕(((Option (List qj))×Bool×Int))):=
 cond (decide (s0.2.1<((a0.getD []).length:Int)))
  (jx (zq (a0.getD []) s0.2.1) fun v20=>
  jx (f143 v20) fun eJ=>
  cond eJ
   (cond s0.2.2
    (jx (bp s0.1 [v20]) fun dM=>
    Eh (.inl (dM,j9 .i64 (s0.2.1+1),En)))
    (cond s0.1.isNone
     (jx (bp s0.1 [v20]) fun fV=>
     Eh (.inl (fV,j9 .i64 (s0.2.1+1),En)))
     (El)))
   (Eh (.inl (s0.1,j9 .i64 (s0.2.1+1),s0.2.2))))
  (Eh (.inr (s0.1,s0.2.2,s0.2.1)))
def Jl (a0:Option (List qj))(s0:(Option (List qj))×Int×Bool):qh:=⟨[(1,.fn (.func 143) [] [],I),(5,sl 5 z8 s0.1,s0.2.2),(8,sl 5 z8 a0,I),(9,Lv a0,I),(10,Iv s0.2.1,I)],[]⟩
def Jm (a0:Option (List qj))(d:((Option (List qj))×Bool×Int)):qo×qh:=(.exit 0,⟨[(1,.fn (.func 143) [] [],I),(5,sl 5 z8 d.1,d.2.1),(8,sl 5 z8 a0,I),(9,Lv a0,I),(10,Iv d.2.2,I),(11,.bool I,I)],[]⟩)
theorem jsv (a0:Option (List qj))(s0:(Option (List qj))×Int×Bool)(r)(h:He a0 s0=Eh r):y5 pr Jn (Jl a0) (Jm a0) s0 r:=by
 unfold He at h
 repeat' first|(replace h:=jy h;obtain⟨d,g,h⟩:=h;with_reducible first|replace g:=zg7 [] g|replace g:=UW g|skip)|(replace h:=j6 h;rcases h with⟨g,h⟩|⟨g,h⟩)|fail
 all_goals (cases h<;>(first|(refine z6 ?_;simp only[go_sem,seval,Jn,Jl,zn,Jm, *]<;>rfl)|(refine yo ?_;simp only[go_sem,seval,Jn,Jl,zn,Jm, *]<;>rfl)))
theorem jsc (a0:Option (List qj)){s0:(Option (List qj))×Int×Bool}{d}(h:bj (He a0) s0=Eh d):X pr (.loop Jn) (Jl a0 s0)=Eh (Jm a0 d):=kl (jsv a0) (fun d hh=>by cases hh) h
def f142 (a0:Option (List qj)):Option ((Option (List qj))×Bool):=
 jx (bj (He a0) (El,0,I)) fun d31=>
 Eh (d31.1,d31.2.1)
theorem zd3 {a0:Option (List qj)}{r}(h:f142 a0=Eh r):jz pr (X pr) 142 [sl 5 z8 a0,.fn (.func 143) [] []]=Eh (sl 5 z8 r.1,r.2):=by
 unfold f142 at h
 refine eh sY ?_
 repeat' first|(replace h:=jy h;obtain⟨d,g,h⟩:=h;with_reducible first|(replace g:=jsc a0 g;dsimp only[Jl,Jm,ki]at g h)|skip)|(replace h:=j6 h;rcases h with⟨g,h⟩|⟨g,h⟩)|fail
 all_goals (cases h<;>(simp only[go_sem,seval,sY, *];exact⟨_,rfl⟩))
end Go.Z
namespace Go.Z
open Go Go.Abs Go.W
def lM:qg→qg
 | .seq a _=>a
 |x=>x
def gY:qg→qg
 | .seq _ b=>b
 |x=>x
def Bu:qg→qg
 | .block _ b=>b
 |x=>x
def Ot:qg→qg
 | .rangeFunc _ _ a _=>a
 |x=>x
def Jo:qg→qg
 | .rangeFunc _ _ _ b=>b
 |x=>x
theorem qu8 {n:Nat}{v:qa}{h t:j8}(hn:h.length=n)(hv:Abs.below n v=En)(hb:ko n h=En):yx n v (h++t)=h:=by
 have ht:(h++t).take n=h:=by rw[←hn,List.take_left'];rfl
 unfold yx
 rw[ht,hv,hb]
 cases hc:Nat.ble (h++t).length n with
 |true=>
  have:=Nat.le_of_ble_eq_true hc
  rw[List.length_append,hn]at this
  have:t=[]:=List.eq_nil_of_length_eq_zero (by omega)
  subst this;simp
 |false=>rfl
theorem sB {n:Nat}{v:qa}{h:j8}(hn:h.length=n):yx n v h=h:=by
 unfold yx
 rw[Nat.ble_eq_true_of_le (by omega)];rfl
section
variable {σ:Type}(r:qc)(u:qe)(H:σ→j8)(step:σ→qj→Int→Option σ)
def ot (x:Int×σ):Option ((Int×σ)⊕(Int×σ)):=
 cond (decide (x.1<((u.uses.getD []).length:Int)))
  (jx (zq (u.uses.getD []) x.1) fun s=>jx (f72 r s.k) fun v=>jx (zq (r.aq.getD []) v) fun l=>jx (step x.2 l s.n) fun y=>Eh (.inl (j9 .i64 (x.1+1),y)))
  (Eh (.inr x))
def Ez (x:Int×σ):qh:=⟨[(0,.fn (.yield 1) [] [],I),(2,.ah (aR r),I),(7,sl 2 aV u.uses,I),(8,Lv u.uses,I),(9,Iv x.1,I)],H x.2⟩
def Ou (x:Int×σ):qo×qh:=(.exit 0,⟨[(0,.fn (.yield 1) [] [],I),(2,.ah (aR r),I),(7,sl 2 aV u.uses,I),(8,Lv u.uses,I),(9,Iv x.1,I),(10,.bool I,I)],H x.2⟩)
theorem zgr (hy:∀x l n y,step x l n=Eh y→jS (X pr) 1 [aL l,Iv n] (H x)=Eh (.bool En,H y))(hl:∀x,(H x).length=2)(x:Int×σ)(q)(h:ot r u step x=Eh q):y5 pr Jp (Ez r u H) (Ou r u H) x q:=by
 unfold ot at h
 rcases j6 h with⟨h1,h⟩|⟨h1,h⟩
 ·obtain⟨s,h2,h⟩:=jy h
  obtain⟨v,h3,h⟩:=jy h
  obtain⟨l,h4,h⟩:=jy h
  obtain⟨y,h5,h⟩:=jy h
  cases h
  have g:=hy _ _ _ _ h5
  have w:=Bl h3
  exact DW (bK:=Ez r u H (j9 .i64 (x.1+1),y)) (by simp only[go_sem,seval,Jp,Ez,h1,ky h2,w,ky h4,g]<;>rfl) (GF (by show(H y).length≤(H x.2).length;rw[hl,hl];exact Nat.le_refl _))
 ·cases h
  exact z6 (by simp only[go_sem,seval,Jp,Ez,h1,Ou]<;>rfl)
theorem jqy {r:qc}{u:qe}{H:σ→j8}{step:σ→qj→Int→Option σ}(hy:∀x l n y,step x l n=Eh y→jS (X pr) 1 [aL l,Iv n] (H x)=Eh (.bool En,H y))(hl:∀x,(H x).length=2){x0:σ}{d}(h:bj (ot r u step) (0,x0)=Eh d):zg pr (X pr) 210 [.fn (.yield 1) [] [],.ah (aU u),.ah (aR r)] (H x0)=Eh (.az [],I,H d.2):=by
 have h1:X pr (.loop Jp) (Ez r u H (0,x0))=Eh (Ou r u H d):=kl (zgr r u H step hy hl) (fun d=>by intro hh;cases hh) h
 rw[zh (show pr.bH 210=Eh sZ from rfl) (by simp)]
 simp only[Ez,Ou]at h1
 simp only[go_sem,seval,sZ,h1]<;>rfl
end
def wL:qg:=Bu (gY (lM (gY (gY pA.body))))
def s5:qg:=Ot wL
def pB:qg:=Jo wL
theorem jlg:wL=.rangeFunc (.tmp 9) [10,11] s5 pB:=rfl
def lN (r:qc)(u:qe):Env:=[(2,.ah (aR r),I),(3,.ah (aU u),I),(5,.ptr 0 0,I),(9,.fn (.func 210) [] [.ah (aU u),.ah (aR r)],I)]
def Bv (o:Option (List qj)):j8:=[.cells [(sl 5 z8 o,o.isSome)]]
def jB (r:qc)(u:qe)(pd:Option qo)(o:Option (List qj)):j8:=[.cells [(sl 5 z8 o,o.isSome)],.loop ⟨lN r u,[10,11],s5,pB,pd⟩]
def Wv (r:qc)(u:qe)(l:qj)(n:Int):Env:=(([10,11][1]),Iv n,I)::(([10,11][0]),aL l,I)::lN r u
def Ov (r:qc)(u:qe)(l:qj)(n:Int):Env:=[(2,.ah (aR r),I),(3,.ah (aU u),I),(5,.ptr 0 0,I),(6,.ah (aL l),I)]
theorem za1 {r:qc}{u:qe}{l:qj}{n:Int}:vB (eW (lN r u)) [10,11] [aL l,Iv n]=Eh (Wv r u l n):=rfl
theorem jiq {r:qc}{u:qe}{l:qj}{n:Int}{H:j8}:X pr s5 ⟨Wv r u l n,H⟩=Eh (.normal,⟨Ov r u l n,H⟩):=by
 simp only[go_sem,seval,s5,Ot,wL,Bu,lM,gY,pA,Wv,lN,List.getElem_cons_zero,List.getElem_cons_succ]<;>rfl
def xR (o:Option (List qj))(l:qj)(_:Int):Option (Option (List qj)):=bp o [l]
theorem jfi {r:qc}{u:qe}{l:qj}{n:Int}{pd:Option qo}{o o':Option (List qj)}(ho:xR o l n=Eh o'):∃e t,X pr pB ⟨Ov r u l n,jB r u pd o⟩=Eh (.normal,⟨e,jB r u pd o'++t⟩):=by
 unfold xR at ho
 have hs:o'.isSome=En:=by
  cases o' with
  |some _=>rfl
  |none=>cases o<;>simp[bp,D8]at ho
 cases o with
 |none=>
  have ap:=fun(b:Nat) (h:j8) (bb:Bool)=>qve (b:=b) (h:=h) (bb:=bb) ho rfl
  simp only[go_sem,seval,pB,Jo,wL,Bu,lM,gY,pA,Ov,jB,ap,Option.isSome_none,hs]
  exact⟨_,_,rfl⟩
 |some o=>
  have ap:=fun(b t:Nat) (h:j8) (bb:Bool)=>qv6 (b:=b) (t:=t) (h:=h) (bb:=bb) ho
  simp only[go_sem,seval,pB,Jo,wL,Bu,lM,gY,pA,Ov,jB,ap,Option.isSome_some,hs]
  exact⟨_,_,rfl⟩
theorem jcf {r:qc}{u:qe}{pd:Option qo}{o:Option (List qj)}:ko 2 (jB r u pd o)=En:=by
 simp only[go_sem,seval,jB,ko,oN,oM,mf,lN]<;>rfl
theorem y75 {r:qc}{u:qe}{l:qj}{n:Int}{o o':Option (List qj)}(ho:xR o l n=Eh o'):jS (X pr) 1 [aL l,Iv n] (jB r u El o)=Eh (.bool En,jB r u El o'):=by
 have g:∀o pd t,y7 (jB r u pd o++t) 1=Eh (.loop ⟨lN r u,[10,11],s5,pB,pd⟩):=fun _ _ _=>rfl
 have g0:∀o pd,y7 (jB r u pd o) 1=Eh (.loop ⟨lN r u,[10,11],s5,pB,pd⟩):=fun _ _=>rfl
 have st:∀o pd s6 t,(jB r u pd o++t).set 1 (.loop ⟨lN r u,[10,11],s5,pB,s6⟩)=jB r u s6 o++t:=fun _ _ _ _=>rfl
 have Ww:∀o pd s6,(jB r u pd o).set 1 (.loop ⟨lN r u,[10,11],s5,pB,s6⟩)=jB r u s6 o:=fun _ _ _=>rfl
 have hl:∀o pd,(jB r u pd o).length=2:=fun _ _=>rfl
 have ha:∀o pd v t,Abs.below 2 v=En→yx 2 v (jB r u pd o++t)=jB r u pd o:=fun _ _ _ _ hv=>qu8 rfl hv jcf
 obtain⟨e,t,hx⟩:=jfi (r:=r) (u:=u) (n:=n) (pd:=Eh .normal) ho
 unfold jS
 simp only[g0,za1,jiq,Eo,cT,Ww,hl,hx,g,st]
 rw[ha _ _ _ _ rfl]
theorem jme {r:qc}{u:qe}{o:Option (List qj)}{d}(h:bj (ot r u xR) (0,o)=Eh d):X pr wL ⟨lN r u,Bv o⟩=Eh (.normal,⟨lN r u,Bv d.2⟩):=by
 have h1:=jqy (H:=jB r u El) (fun x l n y hs=>y75 hs) (fun _=>rfl) h
 have hb:∀o,ko 1 (Bv o)=En:=by
  intro o
  simp only[go_sem,seval,Bv,ko,oN,oM]<;>rfl
 rw[jlg,T5]
 unfold mA
 have hn:(kw s5&&kw pB)=En:=rfl
 have he:zd (lN r u) (.tmp 9)=Eh (.fn (.func 210) [] [.ah (aU u),.ah (aR r)]):=rfl
 have hl:∀o,(Bv o).length=1:=fun _=>rfl
 have qK:∀o,Bv o++[.loop ⟨lN r u,[10,11],s5,pB,El⟩]=jB r u El o:=fun _=>rfl
 have hg:∀o,y7 (jB r u El o) 1=Eh (.loop ⟨lN r u,[10,11],s5,pB,El⟩):=fun _=>rfl
 have ht:∀o,(jB r u El o).take 1=Bv o:=fun _=>rfl
 simp only[hn,cT,he,hl,List.nil_append,List.cons_append,qK,h1,hg,ht,hb]
def yL:qg:=Bu (gY (lM (gY (gY iB.body))))
def s7:qg:=Ot yL
def s9:qg:=Jo yL
theorem jic:yL=.rangeFunc (.tmp 11) [12,13] s7 s9:=rfl
def lO (r:qc)(u:qe):Env:=[(2,.ah (aR r),I),(3,.ah (aU u),I),(5,.ah (.map 0),I),(11,.fn (.func 210) [] [.ah (aU u),.ah (aR r)],I)]
def Bw (o:List (List UInt8×Int)):j8:=[.map (en o)]
def jQ (r:qc)(u:qe)(pd:Option qo)(o:List (List UInt8×Int)):j8:=[.map (en o),.loop ⟨lO r u,[12,13],s7,s9,pd⟩]
def Wx (r:qc)(u:qe)(l:qj)(n:Int):Env:=(([12,13][1]),Iv n,I)::(([12,13][0]),aL l,I)::lO r u
def Wy (r:qc)(u:qe)(l:qj)(n:Int):Env:=[(2,.ah (aR r),I),(3,.ah (aU u),I),(5,.ah (.map 0),I),(6,.ah (aL l),I),(7,Iv n,I)]
theorem j1w {r:qc}{u:qe}{l:qj}{n:Int}:vB (eW (lO r u)) [12,13] [aL l,Iv n]=Eh (Wx r u l n):=rfl
theorem jb2 {r:qc}{u:qe}{l:qj}{n:Int}{H:j8}:X pr s7 ⟨Wx r u l n,H⟩=Eh (.normal,⟨Wy r u l n,H⟩):=by
 simp only[go_sem,seval,s7,Ot,yL,Bu,lM,gY,iB,Wx,lO,List.getElem_cons_zero,List.getElem_cons_succ]<;>rfl
def vU (o:List (List UInt8×Int))(l:qj)(n:Int):Option (List (List UInt8×Int)):=Nw o l.kind (j9 .i64 (l4 o l.kind+n))
theorem jaj {r:qc}{u:qe}{l:qj}{n:Int}{pd:Option qo}{o o':List (List UInt8×Int)}(ho:vU o l n=Eh o'):∃e t,X pr s9 ⟨Wy r u l n,jQ r u pd o⟩=Eh (.normal,⟨e,jQ r u pd o'++t⟩):=by
 unfold vU at ho
 simp only[go_sem,seval,s9,Jo,yL,Bu,lM,gY,iB,Wy,jQ,jj6,jom ho]
 exact⟨_,_,rfl⟩
theorem q7p {r:qc}{u:qe}{pd:Option qo}{o:List (List UInt8×Int)}:ko 2 (jQ r u pd o)=En:=by
 simp only[go_sem,seval,jQ,ko,oN,oM,mf,lO]<;>rfl
theorem zg8 {r:qc}{u:qe}{l:qj}{n:Int}{o o':List (List UInt8×Int)}(ho:vU o l n=Eh o'):jS (X pr) 1 [aL l,Iv n] (jQ r u El o)=Eh (.bool En,jQ r u El o'):=by
 have g:∀o pd t,y7 (jQ r u pd o++t) 1=Eh (.loop ⟨lO r u,[12,13],s7,s9,pd⟩):=fun _ _ _=>rfl
 have g0:∀o pd,y7 (jQ r u pd o) 1=Eh (.loop ⟨lO r u,[12,13],s7,s9,pd⟩):=fun _ _=>rfl
 have st:∀o pd s6 t,(jQ r u pd o++t).set 1 (.loop ⟨lO r u,[12,13],s7,s9,s6⟩)=jQ r u s6 o++t:=fun _ _ _ _=>rfl
 have Ww:∀o pd s6,(jQ r u pd o).set 1 (.loop ⟨lO r u,[12,13],s7,s9,s6⟩)=jQ r u s6 o:=fun _ _ _=>rfl
 have hl:∀o pd,(jQ r u pd o).length=2:=fun _ _=>rfl
 have ha:∀o pd v t,Abs.below 2 v=En→yx 2 v (jQ r u pd o++t)=jQ r u pd o:=fun _ _ _ _ hv=>qu8 rfl hv q7p
 obtain⟨e,t,hx⟩:=jaj (r:=r) (u:=u) (n:=n) (pd:=Eh .normal) ho
 unfold jS
 simp only[g0,j1w,jb2,Eo,cT,Ww,hl,hx,g,st]
 rw[ha _ _ _ _ rfl]
theorem jih {r:qc}{u:qe}{o:List (List UInt8×Int)}{d}(h:bj (ot r u vU) (0,o)=Eh d):X pr yL ⟨lO r u,Bw o⟩=Eh (.normal,⟨lO r u,Bw d.2⟩):=by
 have h1:=jqy (H:=jQ r u El) (fun x l n y hs=>zg8 hs) (fun _=>rfl) h
 have hb:∀o,ko 1 (Bw o)=En:=by
  intro o
  simp only[go_sem,seval,Bw,ko,oN,oM]<;>rfl
 rw[jic,T5]
 unfold mA
 have hn:(kw s7&&kw s9)=En:=rfl
 have he:zd (lO r u) (.tmp 11)=Eh (.fn (.func 210) [] [.ah (aU u),.ah (aR r)]):=rfl
 have hl:∀o,(Bw o).length=1:=fun _=>rfl
 have qK:∀o,Bw o++[.loop ⟨lO r u,[12,13],s7,s9,El⟩]=jQ r u El o:=fun _=>rfl
 have hg:∀o,y7 (jQ r u El o) 1=Eh (.loop ⟨lO r u,[12,13],s7,s9,El⟩):=fun _=>rfl
 have ht:∀o,(jQ r u El o).take 1=Bw o:=fun _=>rfl
 simp only[hn,cT,he,hl,List.nil_append,List.cons_append,qK,h1,hg,ht,hb]
end Go.Z
namespace Go.Z
open Go Go.Abs Go.W
theorem jnt {hp:j8}{r:qc}{u:qe}:zg pr (X pr) 139 [aR r,aU u] hp=Eh (.fn (.func 210) [] [.ah (aU u),.ah (aR r)],I,hp):=by
 rw[zh (show pr.bH 139=Eh tc from rfl) (by simp)]
 simp only[go_sem,seval,tc]<;>rfl
def f141 (r:qc)(u:qe):Option Bool:=
 jx (bj (ot r u vU) (0,[])) fun d=>jx (f134 r u) fun doc=>jx (Hc doc.aF d.2) fun b=>Eh (!b)
def ja5:qg:=lM iB.body
def jcs:qg:=lM (gY iB.body)
def ja6:qg:=lM (lM (gY (gY iB.body)))
def jcl:qg:=gY (gY (gY iB.body))
theorem zdb {r:qc}{u:qe}{q}(h:f141 r u=Eh q):jz pr (X pr) 141 [aR r,aU u]=Eh (.bool q,I):=by
 unfold f141 at h
 obtain⟨d,h1,h⟩:=jy h
 obtain⟨doc,h2,h⟩:=jy h
 obtain⟨b,h3,h⟩:=jy h
 cases h
 have hx:X pr yL ⟨lO r u,[.map []]⟩=Eh (.normal,⟨lO r u,[.map (en d.2)]⟩):=jih h1
 have w1:=jnt (hp:=[.map []]) (r:=r) (u:=u)
 have ha:yx 1 (.fn (.func 210) [] [.ah (aU u),.ah (aR r)]) ([.map []]:j8)=[.map []]:=sB rfl
 have w2:jz pr (X pr) 134 [aR r,aU u]=Eh (aD doc,I):=Oc h2
 have w3:=j10 h3
 have hb:yx 1 (.bool b) ([.map (en d.2)]:j8)=[.map (en d.2)]:=sB rfl
 have this:∃hh,zg pr (X pr) 141 [aR r,aU u] []=Eh (.bool (!b),I,hh):=by
  rw[zh (show pr.bH 141=Eh ⟨27,.seq ja5 (.seq jcs (.seq (.seq ja6 (.block 0 yL)) jcl)),[.tmp 4]⟩from rfl) (by simp)]
  simp only[lO]at hx
  simp only[go_sem,seval,ja5,jcs,ja6,jcl,lM,gY,iB,w1,ha,w2,w3,hb,hx]
  exact⟨_,rfl⟩
 obtain⟨hh,this⟩:=this
 exact k9 rfl this (by first|rfl|simp only[go_sem,seval]) (by first|rfl|simp only[go_sem,seval])
def f75 (r:qc)(u:qe):Option Int:=
 jx (bj (ot r u xR) (0,El)) fun d=>jx (f53 u.ar 21) fun e1=>jx (f140 r u) fun lt=>jx (f53 (!decide (u.version=lt)) 32) fun e2=>jx (f141 r u) fun c=>jx (f53 (!c) 20) fun e3=>
 jx (f74 r u) fun m=>jx (f53 (decide (0<((m.1.getD []).length:Int))) 31) fun e4=>jx (f142 d.2) fun hd=>jx (f53 (decide (0<((hd.1.getD []).length:Int))) 34) fun e5=>f51 (Eh [e1,e2,e3,e4,e5])
def jj3:qg:=lM pA.body
def ji5:qg:=lM (gY pA.body)
def ji8:qg:=lM (lM (gY (gY pA.body)))
def jjo:qg:=gY (gY (gY pA.body))
theorem W75 {r:qc}{u:qe}{q}(h:f75 r u=Eh q):jz pr (X pr) 75 [aR r,aU u]=Eh (Iv q,I):=by
 unfold f75 at h
 obtain⟨d,h1,h⟩:=jy h
 obtain⟨e1,g1,h⟩:=jy h
 obtain⟨lt,h2,h⟩:=jy h
 obtain⟨e2,g2,h⟩:=jy h
 obtain⟨c,h3,h⟩:=jy h
 obtain⟨e3,g3,h⟩:=jy h
 obtain⟨m,h4,h⟩:=jy h
 obtain⟨e4,g4,h⟩:=jy h
 obtain⟨hd,h5,h⟩:=jy h
 obtain⟨e5,g5,h⟩:=jy h
 have hx:X pr wL ⟨lN r u,[.cells [(Nl,I)]]⟩=Eh (.normal,⟨lN r u,[.cells [(sl 5 z8 d.2,d.2.isSome)]]⟩):=jme h1
 have w1:=jnt (hp:=[.cells [(Nl,I)]]) (r:=r) (u:=u)
 have ha:yx 1 (.fn (.func 210) [] [.ah (aU u),.ah (aR r)]) ([.cells [(Nl,I)]]:j8)=[.cells [(Nl,I)]]:=sB rfl
 have k1:=fB g1
 have w2:jz pr (X pr) 140 [aR r,aU u]=Eh (Iv lt,I):=jof h2
 have k2:=fB g2
 have w3:=zdb h3
 have k3:=fB g3
 have w4:jz pr (X pr) 74 [aR r,aU u]=Eh (sl 1 yp m.1,m.2):=W74 h4
 have k4:=fB g4
 have w5:=zd3 h5
 have k5:=fB g5
 have k6:jz pr (X pr) 51 [.list I 1 [Iv e1,Iv e2,Iv e3,Iv e4,Iv e5]]=Eh (Iv q,I):=lK h
 have this:∃hh,zg pr (X pr) 75 [aR r,aU u] []=Eh (Iv q,I,hh):=by
  rw[zh (show pr.bH 75=Eh ⟨44,.seq jj3 (.seq ji5 (.seq (.seq ji8 (.block 0 wL)) jjo)),[.tmp 4]⟩from rfl) (by simp)]
  simp only[lN]at hx
  simp only[go_sem,seval,jj3,ji5,ji8,jjo,lM,gY,pA,w1,ha,k1,w2,k2,w3,k3,w4,k4,w5,k5,k6,hx]
  exact⟨_,rfl⟩
 obtain⟨hh,this⟩:=this
 exact k9 rfl this (by first|rfl|simp only[go_sem,seval]) (by first|rfl|simp only[go_sem,seval])
end Go.Z
end
