/- Chapter 4. -/
import Derived.Test.YtnjngdcbkkonnaaGreatDoorA8
import Derived.Test.YtnjngdcbkkonnaaGreatDoorZL
import Derived.Test.YtnjngdcbkkonnaaGreatDoorZP
set_option linter.unusedVariables false
set_option linter.unusedSimpArgs false
set_option maxRecDepth 100000
set_option maxHeartbeats 4000000
namespace Go.Z
open Go Go.Abs Go.Proofs
def pc8 (p:qi):List (AVal × Bool):=[(.str p.name,false),(.str p.kd,false),(.int .i64 p.pa,false),(.int .i64 p.pb,false),(.int .i64 p.sa,false),(.int .i64 p.sb,false),(.int .i64 p.cost,false),(.int .i64 p.stock,false)]
def pcl (l:List qi):List (AVal × Bool):=l.flatMap pc8
theorem qbe {p:qi} {l:List qi}:pcl (p::l)=pc8 p++pcl l:=by simp [pcl]
theorem qsv:∀ {l:List qi},(pcl l).length=l.length * 8
 | []=>rfl
 | p::l=>by rw [qbe,List.length_append,qsv,List.length_cons]; show 8 + _=_; omega
theorem q37 {c:List (AVal × Bool)} {cs:List (AVal × Bool)} {o:Nat} {vs:List AVal}:yc (c++cs) (c.length + o) vs=(yc cs o vs).map (c++·):=by
 simp only [qu9,List.length_append]
 by_cases h:o + vs.length≤cs.length
 ·simp only [h,show c.length + o + vs.length≤c.length + cs.length by omega,decide_true,Bool.true_and]
  cases vs.all qp with
  | false=>rfl
  | true=>
   simp only [q7r,Option.map_some]
   congr 1
   rw [List.take_append,List.take_of_length_le (by omega),List.drop_append,List.drop_eq_nil_of_le (by omega)]
   simp [Nat.add_assoc]
 ·simp only [h,show ¬ c.length + o + vs.length≤c.length + cs.length by omega,decide_false,Bool.false_and,stC]
  rfl
def qmr (n:Nat) (l:List qi) (i:Int):Option qi:=if 0≤i∧i < n then l[i.toNat]? else none
theorem qne {n:Nat} {l:List qi} {i:Int} {v:qi} (hv:qmr n l i=some v):0≤i∧i < n∧l[i.toNat]?=some v:=by
 unfold qmr at hv
 split at hv
 ·next hi=>exact ⟨hi.1,hi.2,hv⟩
 ·cases hv
section
variable {p:ju} {xc:XC} {h0:Nat} {al:Option (List Nat)} {e:Env} {h:qk}
theorem qzz {n b:Nat} {k:IntKind} {l:List qi} {i:Int} {v:qi} (hv:qmr n l i=some v):qmq 8 h (some (.ms b 0 n)) (some (.int k i))=some ⟨.ptr b (i.toNat * 8),false,none,h⟩:=by
 obtain ⟨h1,h2,_⟩:=qne hv
 simp only [qmq,qeh,q0q h1 h2,val,Nat.zero_add]
def jsi (r:Option qk) (n:Nat):Option ORes:=match r with
 | some h'=>some ⟨.int .i64 n,false,none,h'⟩
 | none=>none
@[go_sem] theorem joo {n:Nat}:jsi (some h) n=some ⟨.int .i64 n,false,none,h⟩:=rfl
end
end Go.Z
