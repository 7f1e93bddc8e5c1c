/- Chapter 10. -/
import Derived.Test.YtimdocpnkimlfaaGreatDoorVC
set_option linter.unusedVariables false
set_option linter.unusedSimpArgs false
set_option maxRecDepth 100000
set_option maxHeartbeats 4000000
noncomputable section
open Option renaming some→I,none→En
namespace Go.Z
open Go Go.Abs Go.W
def f74 (a0:Option (List GEv))(a1:List UInt8):Option (aj×Int×Int):=
 qa (f16 a0) fun v1=>
 cond (decide (v1.2.2=0))
  (qa (f76 v1.1 a1) fun v4=>
  qa (f48 (decide (v4<0)) 10) fun v6=>
  I (v1.1,v4,v6))
  (I (⟨0,En,En,En⟩,0,v1.2.2))
theorem ZA {a0 a1 r}(h:f74 a0 a1=I r):qc pr (X pr) 74 [sl 5 vev a0,.str a1]=I (.aB [aR r.1,Iv r.2.1,Iv r.2.2],false):=by
 unfold f74 at h
 refine zh Kv ?_
 repeat' first|(replace h:=qb h;obtain⟨d,g,h⟩:=h;with_reducible first|replace g:=JU g|replace g:=xY g|replace g:=gg g|skip)|(replace h:=qd h;rcases h with⟨g,h⟩|⟨g,h⟩)
 all_goals (cases h<;>(simp only[go_sem,seval,Kv, *];exact⟨_,rfl⟩))
def f21 (a0:Option (List GEv))(a1:List UInt8):Option ((Option (List (List UInt8)))×Int):=
 qa (f74 a0 a1) fun v1=>
 cond (decide (v1.2.2=0))
  (qa (qr (v1.1.units.getD []) v1.2.1) fun v4=>
  qa (f67 v4) fun v6=>
  I (v6.1,0))
  (I (En,v1.2.2))
theorem W21 {a0 a1 r}(h:f21 a0 a1=I r):qc pr (X pr) 21 [sl 5 vev a0,.str a1]=I (.aB [sl 1 j9 r.1,Iv r.2],false):=by
 unfold f21 at h
 refine zh Kx ?_
 repeat' first|(replace h:=qb h;obtain⟨d,g,h⟩:=h;with_reducible first|replace g:=ZA g|replace g:=W67 g|skip)|(replace h:=qd h;rcases h with⟨g,h⟩|⟨g,h⟩)
 all_goals (cases h<;>(simp only[go_sem,seval,Kx,jg, *];exact⟨_,rfl⟩))
def f27 (a0:Option (List GEv))(a1:List UInt8):Option ((Option (List (List UInt8)))×Int):=
 qa (f16 a0) fun v1=>
 qa (f64 v1.1 a1) fun v3=>
 qa (f48 (decide (v3<0)) 10) fun v5=>
 qa (f46 (I [v1.2.2,v5])) fun v7=>
 cond (decide (v7=0))
  (qa (f80 v1.1 a1) fun v10=>
  I (v10.1,0))
  (I (En,v7))
theorem W27 {a0 a1 r}(h:f27 a0 a1=I r):qc pr (X pr) 27 [sl 5 vev a0,.str a1]=I (.aB [sl 1 j9 r.1,Iv r.2],false):=by
 unfold f27 at h
 refine zh Ky ?_
 repeat' first|(replace h:=qb h;obtain⟨d,g,h⟩:=h; (with_reducible first|replace g:=JU g|replace g:=C9 g|replace g:=gg g|replace g:=mf g|replace g:=W80 g|skip);try dsimp only[zk,lD,List.map,jm,j9,jc,qv,aY,zo,vev,bn,ja,yq,aE,aR,aU,aL,aP,aD]at g)|(replace h:=qd h;rcases h with⟨g,h⟩|⟨g,h⟩)
 all_goals (cases h<;>(simp only[go_sem,seval,Ky, *];exact⟨_,rfl⟩))
def f24 (a0:Option (List GEv))(a1:List UInt8):Option ((Option (List (List UInt8)))×Int):=
 qa (f74 a0 a1) fun v1=>
 cond (decide (v1.2.2=0))
  (qa (qr (v1.1.units.getD []) v1.2.1) fun v4=>
  qa (f78 v1.1 v4) fun v6=>
  I (v6.1,0))
  (I (En,v1.2.2))
theorem W24 {a0 a1 r}(h:f24 a0 a1=I r):qc pr (X pr) 24 [sl 5 vev a0,.str a1]=I (.aB [sl 1 j9 r.1,Iv r.2],false):=by
 unfold f24 at h
 refine zh Kz ?_
 repeat' first|(replace h:=qb h;obtain⟨d,g,h⟩:=h;with_reducible first|replace g:=ZA g|replace g:=W78 g|skip)|(replace h:=qd h;rcases h with⟨g,h⟩|⟨g,h⟩)
 all_goals (cases h<;>(simp only[go_sem,seval,Kz,jg, *];exact⟨_,rfl⟩))
def f25 (a0:Option (List GEv))(a1:List UInt8):Option Int:=
 qa (f74 a0 a1) fun v1=>
 cond (decide (v1.2.2=0))
  (qa (qr (v1.1.units.getD []) v1.2.1) fun v4=>
  qa (f79 v1.1 v4) fun v6=>
  I v6)
  (I v1.2.2)
theorem W25 {a0 a1 r}(h:f25 a0 a1=I r):qc pr (X pr) 25 [sl 5 vev a0,.str a1]=I (Iv r,false):=by
 unfold f25 at h
 refine zh KA ?_
 repeat' first|(replace h:=qb h;obtain⟨d,g,h⟩:=h;with_reducible first|replace g:=ZA g|replace g:=W79 g|skip)|(replace h:=qd h;rcases h with⟨g,h⟩|⟨g,h⟩)
 all_goals (cases h<;>(simp only[go_sem,seval,KA,jg, *];exact⟨_,rfl⟩))
def f28 (a0:Option (List GEv))(a1:List UInt8):Option (Int×Int):=
 qa (f16 a0) fun v1=>
 qa (f81 a1) fun v3=>
 qa (f48 (!v3) 8) fun v5=>
 qa (f46 (I [v1.2.2,v5])) fun v7=>
 cond (decide (v7=0))
  (qa (f82 v1.1 a1) fun v10=>
  I (v10,0))
  (I (0,v7))
theorem W28 {a0 a1 r}(h:f28 a0 a1=I r):qc pr (X pr) 28 [sl 5 vev a0,.str a1]=I (.aB [Iv r.1,Iv r.2],false):=by
 unfold f28 at h
 refine zh KB ?_
 repeat' first|(replace h:=qb h;obtain⟨d,g,h⟩:=h; (with_reducible first|replace g:=JU g|replace g:=W81 g|replace g:=gg g|replace g:=mf g|replace g:=W82 g|skip);try dsimp only[zk,lD,List.map,jm,j9,jc,qv,aY,zo,vev,bn,ja,yq,aE,aR,aU,aL,aP,aD]at g)|(replace h:=qd h;rcases h with⟨g,h⟩|⟨g,h⟩)
 all_goals (cases h<;>(simp only[go_sem,seval,KB, *];exact⟨_,rfl⟩))
end Go.Z
end
