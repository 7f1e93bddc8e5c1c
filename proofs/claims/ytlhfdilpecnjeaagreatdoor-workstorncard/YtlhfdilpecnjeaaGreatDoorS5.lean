/- Chapter 10. -/
import Derived.Test.YtlhfdilpecnjeaaGreatDoorS1
set_option linter.unusedVariables false
set_option linter.unusedSimpArgs false
set_option maxRecDepth 100000
set_option maxHeartbeats 4000000
noncomputable section
open Bool renaming false->I
open Option renaming some->En
namespace Go.Z
open Go Go.Abs Go.W
def f98 (O:bw):Option Bool:=
 En O.ax
theorem W98 (hp:qf){O:bw}{r}(h:f98 O=En r):ai pr (X pr) 98 [aU O] hp=En (.bool r,I,hp):=by
 unfold f98 at h;have Q:O.ax=r:=En.inj h;subst Q;rw[qg (show pr.br 98=En YV from rfl) (by simp)];simp only[go_sem,seval,YV]<;>rfl
def KJ (O:ak bw)(V:(ak bw)×Int×Bool):Option (((ak bw)×Int×Bool)⊕(((ak bw)×Bool×Int))):=
 cond (decide (V.2.1<((O.getD []).length:Int)))
  (qa (qm (O.getD []) V.2.1) fun v20=>
  qa (f98 v20) fun v22=>
  cond v22
   (cond V.2.2
    (qa (bC V.1 [v20]) fun v26=>
    En (.inl (v26,qd .i64 (V.2.1+1),true)))
    (cond V.1.isNone
     (qa (bC V.1 [v20]) fun eu=>
     En (.inl (eu,qd .i64 (V.2.1+1),true)))
     (none)))
   (En (.inl (V.1,qd .i64 (V.2.1+1),V.2.2))))
  (En (.inr (V.1,V.2.2,V.2.1)))
def PN (O:ak bw)(V:(ak bw)×Int×Bool):bn:=⟨[(1,.fn (.func 98) [] [],I),(5,sl 8 bE V.1,V.2.2),(8,sl 8 bE O,I),(9,Lv O,I),(10,Iv V.2.1,I)],[]⟩
def PO (O:ak bw)(d:((ak bw)×Bool×Int)):jb×bn:=(.exit 0,⟨[(1,.fn (.func 98) [] [],I),(5,sl 8 bE d.1,d.2.1),(8,sl 8 bE O,I),(9,Lv O,I),(10,Iv d.2.2,I),(11,.bool I,I)],[]⟩)
theorem jyo (O:ak bw)(V:(ak bw)×Int×Bool)(r)(h:KJ O V=En r):jy pr CF (PN O) (PO O) V r:=by
 unfold KJ at h
 repeat' first|(replace h:=qb h;obtain⟨d,g,h⟩:=h;with_reducible first|replace g:=W98 [] g|replace g:=Ou g|skip)|(replace h:=qc h;rcases h with⟨g,h⟩|⟨g,h⟩)
 all_goals (cases h<;>((first|refine qu ?_|refine jz ?_);simp only[go_sem,seval,CF,PN,jq,PO, *]<;>rfl))
theorem jy6 (O:ak bw){V:(ak bw)×Int×Bool}{d}(h:bq (KJ O) V=En d):X pr (.loop CF) (PN O V)=En (PO O d):=lT (jyo O) (fun d hh=>by cases hh) h
def KK (O:ak bw):Option ((ak bw)×Bool):=
 qa (bq (KJ O) (none,0,I)) fun d31=>
 En (d31.1,d31.2.1)
theorem zg4 {O:ak bw}{r}(h:KK O=En r):ae pr (X pr) 64 [sl 8 bE O,.fn (.func 98) [] []]=En (sl 8 bE r.1,r.2):=by
 unfold KK at h;refine yq KL ?_
 repeat' first|(replace h:=qb h;obtain⟨d,g,h⟩:=h;with_reducible first|(replace g:=jy6 O g;dsimp only[PN,PO,zr]at g h)|skip)|(replace h:=qc h;rcases h with⟨g,h⟩|⟨g,h⟩)
 all_goals (cases h<;>(simp only[go_sem,seval,KL, *];exact⟨_,rfl⟩))
def f168 (O:ji):Option aj:=
 En O.name
theorem zjy (hp:qf){O:ji}{r}(h:f168 O=En r):ai pr (X pr) 168 [aL O] hp=En (.str r,I,hp):=by
 unfold f168 at h;have Q:O.name=r:=En.inj h;subst Q;rw[qg (show pr.br 168=En CG from rfl) (by simp)];simp only[go_sem,seval,CG]<;>rfl
def KM (O:ak ji)(V:(ak aj)×Int×Bool):Option (((ak aj)×Int×Bool)⊕(((ak aj)×Bool×Int))):=
 cond (decide (V.2.1<((O.getD []).length:Int)))
  (qa (qm (O.getD []) V.2.1) fun eT=>
  qa (f168 eT) fun v20=>
  cond V.2.2
   (qa (bC V.1 [v20]) fun v23=>
   En (.inl (v23,qd .i64 (V.2.1+1),true)))
   (cond V.1.isNone
    (qa (bC V.1 [v20]) fun v26=>
    En (.inl (v26,qd .i64 (V.2.1+1),true)))
    (none)))
  (En (.inr (V.1,V.2.2,V.2.1)))
def PP (O:ak ji)(V:(ak aj)×Int×Bool):bn:=⟨[(1,.fn (.func 168) [] [],I),(5,sl 1 jf V.1,V.2.2),(8,sl 5 je O,I),(9,Lv O,I),(10,Iv V.2.1,I)],[]⟩
def PQ (O:ak ji)(d:((ak aj)×Bool×Int)):jb×bn:=(.exit 0,⟨[(1,.fn (.func 168) [] [],I),(5,sl 1 jf d.1,d.2.1),(8,sl 5 je O,I),(9,Lv O,I),(10,Iv d.2.2,I),(11,.bool I,I)],[]⟩)
theorem jwh (O:ak ji)(V:(ak aj)×Int×Bool)(r)(h:KM O V=En r):jy pr PR (PP O) (PQ O) V r:=by
 unfold KM at h
 repeat' first|(replace h:=qb h;obtain⟨d,g,h⟩:=h;with_reducible first|replace g:=zjy [] g|replace g:=F5 g|skip)|(replace h:=qc h;rcases h with⟨g,h⟩|⟨g,h⟩)
 all_goals (cases h<;>((first|refine qu ?_|refine jz ?_);simp only[go_sem,seval,PR,PP,jq,PQ, *]<;>rfl))
theorem jw4 (O:ak ji){V:(ak aj)×Int×Bool}{d}(h:bq (KM O) V=En d):X pr (.loop PR) (PP O V)=En (PQ O d):=lT (jwh O) (fun d hh=>by cases hh) h
def f167 (O:ak ji):Option ((ak aj)×Bool):=
 qa (bq (KM O) (none,0,I)) fun d28=>
 En (d28.1,d28.2.1)
theorem zfs {O:ak ji}{r}(h:f167 O=En r):ae pr (X pr) 167 [sl 5 je O,.fn (.func 168) [] []]=En (sl 1 jf r.1,r.2):=by
 unfold f167 at h;refine yq CH ?_
 repeat' first|(replace h:=qb h;obtain⟨d,g,h⟩:=h;with_reducible first|(replace g:=jw4 O g;dsimp only[PP,PQ,zr]at g h)|skip)|(replace h:=qc h;rcases h with⟨g,h⟩|⟨g,h⟩)
 all_goals (cases h<;>(simp only[go_sem,seval,CH, *];exact⟨_,rfl⟩))
end Go.Z
end
