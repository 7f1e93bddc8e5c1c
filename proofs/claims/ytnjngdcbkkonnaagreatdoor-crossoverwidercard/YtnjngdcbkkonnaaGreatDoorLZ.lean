/- The program with the result of the fixed examples. -/
import Derived.Test.YtnjngdcbkkonnaaGreatDoorA2
import Derived.Test.YtnjngdcbkkonnaaGreatDoorTK
import Derived.Test.YtnjngdcbkkonnaaGreatDoorA21
set_option linter.unusedVariables false
set_option linter.unusedSimpArgs false
set_option maxRecDepth 100000
namespace Go.Z
open Go Go.Abs Go.Proofs
def tAw:List qa→Option (qa×Bool)
 | []=>some (.bool true,false)
 |_=>none
def E16:Option Bool:=some true
end Go.Z
namespace Go.Z
open Go Go.Abs Go.Proofs
def opY (k:Nat):Bool:=[3,4,5,6,7,8,9,10,11,12,13,14,15].any (Nat.beq k)
def q8y:qi3:=fun k=>bif Nat.beq k 16 then some tAw else none
noncomputable def prY:qo:=qcf prT q8y opY
theorem okY:qu Tryz.prog prY:=qv6 okT (by
 intro k f hf
 simp only[q8y,Bool.cond_eq_ite]at hf
 split at hf
 ·next hb=>
  cases hf
  obtain rfl:=Nat.eq_of_beq_eq_true hb
  refine⟨qc7 (k:=16) (by kernel_rfl),fun args v o h _ _=>?_⟩
  cases args with
  |nil=>cases h;exact jbl
  |cons a l=>cases h
 ·cases hf)
theorem atY {k:Nat}(ho:opY k=false)(hm:q8y k=none){args:List qa}{v:qa}{o:Bool}(h:zb prT (X prT) k args=some (v,o))(hv:Abs.below 0 v=true):zb prY (X prY) k args=some (v,o):=qws ho hm h hv
theorem Y16 {r}(h:E16=some r):zb prY (X prY) 16 []=some (.bool r,false):=by
 cases h
 exact qwx (f:=tAw) rfl rfl rfl rfl
set_option maxHeartbeats 4000000
theorem Y24 {a0:TP}{r}(h:f24 a0=some r):zb prY (X prY) 24 [sl 8 zd a0]=some (sl 8 zd r.1,r.2):=atY rfl rfl (atT rfl rfl (W24 h) (by first|rfl|simp only[go_sem,seval])) (by first|rfl|simp only[go_sem,seval])
theorem Y25 {a0:TP}{r}(h:f25 a0=some r):zb prY (X prY) 25 [sl 8 zd a0]=some (Iv r,false):=atY rfl rfl (atT rfl rfl (W25 h) (by first|rfl|simp only[go_sem,seval])) (by first|rfl|simp only[go_sem,seval])
theorem Y36 {a0:TP}{a1:TB}{a2:Int}{r}(h:f36 a0 a1 a2=some r):zb prY (X prY) 36 [sl 8 zd a0,sl 5 yf a1,Iv a2]=some (.bool r,false):=atY rfl rfl (atT rfl rfl (W36 h) (by first|rfl|simp only[go_sem,seval])) (by first|rfl|simp only[go_sem,seval])
theorem Y38 {a0:TB}{r}(h:f38 a0=some r):zb prY (X prY) 38 [sl 5 yf a0]=some (sl 5 yf r.1,r.2):=atY rfl rfl (atT rfl rfl (W38 h) (by first|rfl|simp only[go_sem,seval])) (by first|rfl|simp only[go_sem,seval])
theorem Y39 {a0:TB}{r}(h:f39 a0=some r):zb prY (X prY) 39 [sl 5 yf a0]=some (Iv r,false):=atY rfl rfl (atT rfl rfl (W39 h) (by first|rfl|simp only[go_sem,seval])) (by first|rfl|simp only[go_sem,seval])
theorem Y37 {a0:TP}{a1:TB}{a2:Int}{r}(h:f37 a0 a1 a2=some r):zb prY (X prY) 37 [sl 8 zd a0,sl 5 yf a1,Iv a2]=some (.tup [sl 1 zg r.1,Iv r.2.1,Iv r.2.2],false):=atY rfl rfl (W37 h) (by first|rfl|simp only[go_sem,seval])
end Go.Z
