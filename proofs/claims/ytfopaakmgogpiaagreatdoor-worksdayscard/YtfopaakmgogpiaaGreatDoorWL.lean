/- The program with the result of the fixed examples. -/
import Derived.Test.YtfopaakmgogpiaaGreatDoorAZ
import Derived.Test.YtfopaakmgogpiaaGreatDoorW18
set_option maxRecDepth 100000
open Option renaming some→I
open Bool renaming false→En
namespace Go.Z
open Go Go.Abs Go.Proofs
def tAw:List qa→Option (qa×Bool)
 | []=>I (.bool true,En)
 |_=>none
def WB:uX:=fun k=>bif Nat.beq k 8 then I tAw else none
def opZ:Nat→Bool:=fun k=>Nat.ble 3 k&&Nat.ble k 6
noncomputable def jZ:qt:=l0 pr WB opZ
theorem okZ:qx Tryz.prog jZ:=jd5 (okM ok0) (by
 intro k f hf
 simp only[WB,Bool.cond_eq_ite]at hf
 split at hf
 ·next hb=>
  cases hf
  obtain rfl:=Nat.eq_of_beq_eq_true hb
  refine⟨tP (k:=8) (by kernel_rfl),fun args v o h _ _=>?_⟩
  cases args with
  |nil=>cases h;exact jec
  |cons a l=>cases h
 ·cases hf)
theorem KZ {k:Nat}(ho:opZ k=En)(hm:WB k=none){args:List qa}{v:qa}{o:Bool}(h:jz pr (X pr) k args=I (v,o))(hv:below 0 v=true):jz jZ (X jZ) k args=I (v,o):=q7p ho hm h hv
def E8:Option Bool:=I true
theorem Q8 {r}(h:E8=I r):jz jZ (X jZ) 8 []=I (.bool r,En):=by
 cases h
 exact jan (f:=tAw) rfl rfl rfl rfl
end Go.Z
set_option maxHeartbeats 4000000
namespace Go.Z
open Go Go.Abs Go.W
theorem za0 {a0:Option (List qm)}{a1:Int}{r}(h:f7 a0 a1=I r):jz jZ (X jZ) 7 [sl 5 vev a0,Iv a1]=I (.bool r,En):=KZ rfl rfl (W7 h) (by first|rfl|simp only[go_sem,seval])
theorem j2v {a0:qc}{a1:qc}{r}(h:f13 a0 a1=I r):jz jZ (X jZ) 13 [aR a0,aR a1]=I (.bool r,En):=KZ rfl rfl (W13 h) (by first|rfl|simp only[go_sem,seval])
theorem j6u {a0:qc}{r}(h:f14 a0=I r):jz jZ (X jZ) 14 [aR a0]=I (aR r,En):=KZ rfl rfl (W14 h) (by first|rfl|simp only[go_sem,seval])
theorem j1q {a0:Option (List qm)}{a1:Int}{r}(h:f17 a0 a1=I r):jz jZ (X jZ) 17 [sl 5 vev a0,Iv a1]=I (.aC [aR r.1,Iv r.2],En):=KZ rfl rfl (W17 h) (by first|rfl|simp only[go_sem,seval])
theorem j3q {a0:Option (List qm)}{a1:Int}{r}(h:f18 a0 a1=I r):jz jZ (X jZ) 18 [sl 5 vev a0,Iv a1]=I (.aC [aR r.1,Iv r.2],En):=KZ rfl rfl (W18 h) (by first|rfl|simp only[go_sem,seval])
noncomputable def f4 (a0:Option (List qm))(a1:Int):Option Bool:=
 jx (f7 a0 24) fun v1=>
 cond v1
  (jx (f17 a0 a1) fun v4=>
  jx (f18 a0 a1) fun v6=>
  cond (decide (v4.2=v6.2))
   (jx (f14 v4.1) fun v9=>
   jx (f13 v9 v6.1) fun v11=>
   cond v11
    (jx (E8) fun dz=>
    I dz)
    (I En))
   (I En))
  (jx (E8) fun dm=>
  I dm)
theorem W4 {a0:Option (List qm)}{a1:Int}{r}(h:f4 a0 a1=I r):jz jZ (X jZ) 4 [sl 5 vev a0,Iv a1]=I (.bool r,En):=by
 unfold f4 at h
 refine y7 c4 ?_
 repeat' first|(replace h:=jy h;obtain⟨d,g,h⟩:=h;with_reducible first|replace g:=za0 g|replace g:=j1q g|replace g:=j3q g|replace g:=j6u g|replace g:=j2v g|replace g:=Q8 g|skip)|(replace h:=j6 h;rcases h with⟨g,h⟩|⟨g,h⟩)|fail
 all_goals (cases h<;>(simp only[go_sem,seval,c4, *];exact⟨_,rfl⟩))
end Go.Z
