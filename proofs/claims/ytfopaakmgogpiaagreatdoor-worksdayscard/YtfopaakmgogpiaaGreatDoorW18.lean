/- Chapter 10. -/
import Derived.Test.YtfopaakmgogpiaaGreatDoorVB
set_option maxRecDepth 100000
set_option maxHeartbeats 4000000
noncomputable section
open Option renaming some→I
open Bool renaming false→En
namespace Go.Z
open Go Go.Abs Go.W
def f68 (a0:qm)(a1:Int):Option Bool:=
 jx (zp (a0.values.getD []) 0) fun v1=>
 I (decide (v1≤a1))
theorem W68 (hp:j8){a0:qm}{a1:Int}{r}(h:f68 a0 a1=I r):zg pr (X pr) 68 [aE a0,.ah (Iv a1)] hp=I (.bool r,En,hp):=by
 unfold f68 at h
 obtain⟨v1,h2,h⟩:=jy h
 have hr:decide (v1≤a1)=r:=I.inj h
 subst hr
 rw[zh (show pr.bL 68=I I5 from rfl) (by simp)]
 simp only[go_sem,seval,I5,ko h2]<;>rfl
def Hn (a0:Option (List qm))(aq:Int)(s0:(Option (List qm))×Int×Bool):Option (((Option (List qm))×Int×Bool)⊕(((Option (List qm))×Bool×Int))):=
 cond (decide (s0.2.1<((a0.getD []).length:Int)))
  (jx (zp (a0.getD []) s0.2.1) fun v20=>
  jx (f68 v20 aq) fun ea=>
  cond ea
   (cond s0.2.2
    (jx (bg s0.1 [v20]) fun eI=>
    I (.inl (eI,j9 .i64 (s0.2.1+1),true)))
    (cond s0.1.isNone
     (jx (bg s0.1 [v20]) fun fk=>
     I (.inl (fk,j9 .i64 (s0.2.1+1),true)))
     (none)))
   (I (.inl (s0.1,j9 .i64 (s0.2.1+1),s0.2.2))))
  (I (.inr (s0.1,s0.2.2,s0.2.1)))
def I6 (a0:Option (List qm))(aq:Int)(s0:(Option (List qm))×Int×Bool):qg:=⟨[(1,.fn (.func 68) [] [.ah (Iv aq)],En),(5,sl 5 vev s0.1,s0.2.2),(8,sl 5 vev a0,En),(9,Lv a0,En),(10,Iv s0.2.1,En)],[]⟩
def I7 (a0:Option (List qm))(aq:Int)(d:((Option (List qm))×Bool×Int)):qo×qg:=(.exit 0,⟨[(1,.fn (.func 68) [] [.ah (Iv aq)],En),(5,sl 5 vev d.1,d.2.1),(8,sl 5 vev a0,En),(9,Lv a0,En),(10,Iv d.2.2,En),(11,.bool En,En)],[]⟩)
theorem j2c (a0:Option (List qm))(aq:Int)(s0:(Option (List qm))×Int×Bool)(r)(h:Hn a0 aq s0=I r):yo pr I8 (I6 a0 aq) (I7 a0 aq) s0 r:=by
 unfold Hn at h
 repeat' first|(replace h:=jy h;obtain⟨d,g,h⟩:=h;with_reducible first|replace g:=W68 [] g|replace g:=jcp g|skip)|(replace h:=j6 h;rcases h with⟨g,h⟩|⟨g,h⟩)|fail
 all_goals (cases h<;>(first|(refine zy ?_;simp only[go_sem,seval,I8,I6,zn,I7, *]<;>rfl)|(refine yh ?_;simp only[go_sem,seval,I8,I6,zn,I7, *]<;>rfl)))
theorem j36 (a0:Option (List qm))(aq:Int){s0:(Option (List qm))×Int×Bool}{d}(h:bf (Hn a0 aq) s0=I d):X pr (.loop I8) (I6 a0 aq s0)=I (I7 a0 aq d):=yz (j2c a0 aq) (fun d hh=>by cases hh) h
def f67 (a0:Option (List qm))(aq:Int):Option ((Option (List qm))×Bool):=
 jx (bf (Hn a0 aq) (none,0,En)) fun d31=>
 I (d31.1,d31.2.1)
theorem W67 {a0:Option (List qm)}{aq:Int}{r}(h:f67 a0 aq=I r):jz pr (X pr) 67 [sl 5 vev a0,.fn (.func 68) [] [.ah (Iv aq)]]=I (sl 5 vev r.1,r.2):=by
 unfold f67 at h
 refine eU I9 ?_
 repeat' first|(replace h:=jy h;obtain⟨d,g,h⟩:=h;with_reducible first|(replace g:=j36 a0 aq g;dsimp only[I6,I7,y8]at g h)|skip)|(replace h:=j6 h;rcases h with⟨g,h⟩|⟨g,h⟩)|fail
 all_goals (cases h<;>(simp only[go_sem,seval,I9, *];exact⟨_,rfl⟩))
def f17 (a0:Option (List qm))(a1:Int):Option (qc×Int):=
 jx (NF a0) fun v1=>
 jx (f52 a1 0 999999999) fun v3=>
 jx (f51 (I [v1.2.2,v3])) fun v5=>
 cond (decide (v5=0))
  (jx (f67 v1.1.ct a1) fun v8=>
  jx (zp (v1.1.st.getD []) ((v8.1.getD []).length:Int)) fun v10=>
  I (v10,0))
  (I (⟨0,none,none,none⟩,v5))
theorem W17 {a0:Option (List qm)}{a1:Int}{r}(h:f17 a0 a1=I r):jz pr (X pr) 17 [sl 5 vev a0,Iv a1]=I (.aC [aR r.1,Iv r.2],En):=by
 unfold f17 at h
 refine y7 Ja ?_
 repeat' first|(replace h:=jy h;obtain⟨d,g,h⟩:=h; (with_reducible first|replace g:=zfp g|replace g:=Ig g|replace g:=l5 g|replace g:=W67 g|skip);try dsimp only[y8,ly,List.map,kw,qag,z8,zt,bh,y6,vev,aS,z6,dk,aE,aR,aU,aL,aP,aD]at g)|(replace h:=j6 h;rcases h with⟨g,h⟩|⟨g,h⟩)|fail
 all_goals (cases h<;>(simp only[go_sem,seval,Ja,zn, *];exact⟨_,rfl⟩))
end Go.Z
end
