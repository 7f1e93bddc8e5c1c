/- Chapter 10, plain. -/
import Derived.Test.YtimdocpnkimlfaaGreatDoorEJ
import Derived.Test.YtimdocpnkimlfaaGreatDoorW20
import Derived.Test.YtimdocpnkimlfaaGreatDoorWSJ
set_option linter.unusedVariables false
set_option linter.unusedSimpArgs false
set_option maxRecDepth 100000
set_option maxHeartbeats 4000000
open Option renaming some→I
namespace Go.Z
open Go Go.Abs Go.W
theorem q7q {a b}(h:a.getD []=b.getD [])(hl:(a.getD []).length≤SM):f53 a b=I true:=by
 unfold f53
 rw[show((a.getD []).length:Int)=((b.getD []).length:Int) by rw[h],decide_eq_true rfl,cond_true]
 obtain⟨d,hd⟩:=j2w (f:=wi a b) (n:=(a.getD []).length) hl (by unfold wi;simp only[rj];rfl) (fun i hi=>by
  obtain⟨x,hx⟩:=jaa hi
  unfold wi
  simp only[tT hi,cond_true,qe,mK hx,mK (show(b.getD [])[i]?=I x by rw[←h];exact hx),decide_true])
 rw[hd];rfl
variable {r:fW}{u:nR}
theorem jh4 {a:Option (List (List UInt8))}{n:List UInt8}(hl:(a.getD []).length≤SM):f69 a n=I ((a.getD []).any fun x=>decide (n=x)):=by
 have h:IK a n=I (BM ((a.getD []).findIdx? fun x=>decide (n=x))):=je0 (p:=fun x=>decide (n=x)) hl fun i=>rfl
 unfold f69
 rw[h,ob,q6k,gC]
theorem jle {l}(hl:l.length≤SM):f32 (I l)=I (jM l):=by
 have h:E1 (I l)=sw (I l):=rfl
 have e:f32 (I l)=f46 (I l):=by
  unfold f32 f87 f46
  rw[h]
  cases bq (sw (I l)) 0 with
  |none=>rfl
  |some d=>cases d<;>rfl
 rw[e]
 exact vZ hl
theorem jge {b e}:f34 b e=I (if b then e else 0):=by unfold f34;cases b<;>rfl
end Go.Z
namespace Go.Z
open Go Go.Abs Go.W
structure sA (l:Option (List aT))(h:iw):Prop where
 hb:∀e∈l.getD [],EvB e
 hr:run (qh .i64) ((l.getD []).map aT.er)=.ok h
theorem sA.ok {l h}(j:sA l h):gm (qh .i64) h:=jkr j.hr
theorem sA.wf {l h}(j:sA l h):WF (now h):=j.ok.E2
theorem sA.IL {l h}(j:sA l h):gD (now h):=j.ok.wk
theorem jd4 {a b:Int}:f46 (I [a,b])=I (jM [a,b]):=vZ (by simp[SM])
theorem sA.take {l:List aT}{h}(j:sA (I l) h)(m:Nat)(hm:m≤l.length):∃q,sA (I (l.take m)) q:=by
 have hr:=j.hr
 simp only[Option.getD_some]at hr
 rw[←List.take_append_drop m l,List.map_append]at hr
 obtain⟨q,q1,_⟩:=q4s hr
 exact⟨q,fun e he=>j.hb e (List.mem_of_mem_take he),q1⟩
end Go.Z
