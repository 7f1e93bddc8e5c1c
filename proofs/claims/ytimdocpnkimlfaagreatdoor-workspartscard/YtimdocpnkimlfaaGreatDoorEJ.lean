/- Chapter 10, plain. -/
import Derived.Test.YtimdocpnkimlfaaGreatDoorEI
set_option linter.unusedVariables false
set_option linter.unusedSimpArgs false
set_option maxRecDepth 100000
set_option maxHeartbeats 4000000
namespace Go.Z
open Go Go.Abs Go.W
theorem juz {l n}(hn:n≤1000):∃b,f12 l (n:Int)=some b∧(b=true→(l.getD []).length≤n∧∀e∈l.getD [],qF e):=by
 unfold f12
 by_cases h:n<(l.getD []).length
 ·rw[decide_eq_true (by omega)]
  exact⟨false,rfl,fun h=>by cases h⟩
 ·rw[decide_eq_false (by omega),cond_false]
  rcases q88 (l.getD []) (Cw l) (fun _ e=>qF e) (by unfold Cw;rw[zr];rfl) (fun i x hx=>by
   have hi:i<(l.getD []).length:=(List.getElem?_eq_some_iff.1 hx).1
   unfold Cw
   simp only[ye hi,cond_true,jb hx,qa]
   by_cases h1:40<(x.kind.length:Int)
   ·rw[decide_eq_true h1];exact .inr ⟨_,rfl⟩
   rw[decide_eq_false h1,cond_false]
   by_cases h2:6<((x.names.getD []).length:Int)
   ·rw[decide_eq_true h2];exact .inr ⟨_,rfl⟩
   rw[decide_eq_false h2,cond_false]
   by_cases h3:8<((x.values.getD []).length:Int)
   ·rw[decide_eq_true h3];exact .inr ⟨_,rfl⟩
   rw[decide_eq_false h3,cond_false]
   by_cases h4:200<(x.text.length:Int)
   ·rw[decide_eq_true h4];exact .inr ⟨_,rfl⟩
   rw[decide_eq_false h4,cond_false]
   have hb:qF x:=⟨by unfold SM;omega,by unfold SM;omega⟩
   rcases q88 (x.names.getD []) (Cx l (i:Int)) (fun _ _=>True) (by unfold Cx;simp only[jb hx,qa];rw[zr];rfl) (fun j y hy=>by
    have hj:j<(x.names.getD []).length:=(List.getElem?_eq_some_iff.1 hy).1
    unfold Cx
    simp only[jb hx,qa,ye hj,cond_true,jb hy]
    by_cases h5:40<(y.length:Int)
    ·rw[decide_eq_true h5];exact .inr ⟨_,rfl⟩
    rw[decide_eq_false h5,cond_false,yh (by omega)]
    exact .inl ⟨rfl,trivial⟩)with⟨e,he⟩|⟨he,_⟩
   ·rw[he];exact .inr ⟨_,rfl⟩
   ·rw[he]
    refine .inl ⟨?_,hb⟩
    simp only[]
    rw[yh (by omega)])with⟨e,he⟩|⟨he,hall⟩
  ·rw[he]
   exact⟨false,rfl,fun h=>by cases h⟩
  ·rw[he]
   refine⟨true,rfl,fun _=>⟨by omega,fun e hm=>?_⟩⟩
   obtain⟨i,hi⟩:=List.getElem?_of_mem hm
   exact hall i e hi
theorem ob {α β:Type}{x:α}{f:α→Option β}:qa (some x) f=f x:=rfl
end Go.Z
