/- Chapter 4. -/
import Derived.Test.YtnjngdcbkkonnaaGreatDoorA8
set_option linter.unusedVariables false
set_option linter.unusedSimpArgs false
set_option maxRecDepth 100000
set_option maxHeartbeats 4000000
namespace Go.Z
open Go Go.Abs
noncomputable def qiz (a0:Option (List qi)) (a1:Option (List Int)) (s0:(Option (List (Option (List GEl)))) × Int × Bool) (v646:qi) (s1:(Option (List (Option (List GEl)))) × Int × Bool) (v869:Option (List GEl)) (s2:(Option (List (Option (List GEl)))) × Int × Bool) (s3:(Option (List (Option (List GEl)))) × Int × Bool):Option (((Option (List (Option (List GEl)))) × Int × Bool) ⊕ (((Option (List (Option (List GEl)))) × Bool × Int))):=
 cond (decide (s3.2.1≤v646.sb))
  (qe (apO (some []) (v869.getD [])) fun v967=>
  qe (apO v967 [⟨v646.kd,qf .i64 (v646.pa + s2.2.1),qf .i64 (v646.pb + s3.2.1)⟩]) fun v969=>
  cond s3.2.2
   (qe (apO s3.1 [v969]) fun v972=>
   some (.inl (v972,qf .i64 (s3.2.1 + 1),true)))
   (cond s3.1.isNone
    (qe (apO s3.1 [v969]) fun v975=>
    some (.inl (v975,qf .i64 (s3.2.1 + 1),true)))
    (none)))
  (some (.inr (s3.1,s3.2.2,s3.2.1)))
def qev (a0:Option (List qi)) (a1:Option (List Int)) (s0:(Option (List (Option (List GEl)))) × Int × Bool) (v646:qi) (s1:(Option (List (Option (List GEl)))) × Int × Bool) (v869:Option (List GEl)) (s2:(Option (List (Option (List GEl)))) × Int × Bool) (s3:(Option (List (Option (List GEl)))) × Int × Bool):ASt:=⟨[(0,sl 8 qm a0,false),(8,sl 1 (sl 3 vel) s3.1,s3.2.2),(9,.ptr 0 0,false),(11,sl 3 vel v869,false),(12,.int .i64 s2.2.1,false),(13,.int .i64 s3.2.1,false),(16,sl 1 qo a1,false),(17,.int .i64 ((a1.getD []).length:Int),false),(18,.int .i64 s0.2.1,false),(26,sl 1 (sl 3 vel) s0.1,false),(27,.int .i64 ((s0.1.getD []).length:Int),false),(28,.int .i64 s1.2.1,false)],[.cells [(.str v646.name,false),(.str v646.kd,false),(.int .i64 v646.pa,false),(.int .i64 v646.pb,false),(.int .i64 v646.sa,false),(.int .i64 v646.sb,false),(.int .i64 v646.cost,false),(.int .i64 v646.stock,false)]]⟩
def qws (a0:Option (List qi)) (a1:Option (List Int)) (s0:(Option (List (Option (List GEl)))) × Int × Bool) (v646:qi) (s1:(Option (List (Option (List GEl)))) × Int × Bool) (v869:Option (List GEl)) (s2:(Option (List (Option (List GEl)))) × Int × Bool) (d:((Option (List (Option (List GEl)))) × Bool × Int)):ji × ASt:=(.exit 6,⟨[(0,sl 8 qm a0,false),(8,sl 1 (sl 3 vel) d.1,d.2.1),(9,.ptr 0 0,false),(11,sl 3 vel v869,false),(12,.int .i64 s2.2.1,false),(13,.int .i64 d.2.2,false),(16,sl 1 qo a1,false),(17,.int .i64 ((a1.getD []).length:Int),false),(18,.int .i64 s0.2.1,false),(26,sl 1 (sl 3 vel) s0.1,false),(27,.int .i64 ((s0.1.getD []).length:Int),false),(28,.int .i64 s1.2.1,false),(47,.bool false,false)],[.cells [(.str v646.name,false),(.str v646.kd,false),(.int .i64 v646.pa,false),(.int .i64 v646.pb,false),(.int .i64 v646.sa,false),(.int .i64 v646.sb,false),(.int .i64 v646.cost,false),(.int .i64 v646.stock,false)]]⟩)
theorem jiu (a0:Option (List qi)) (a1:Option (List Int)) (s0:(Option (List (Option (List GEl)))) × Int × Bool) (v646:qi) (s1:(Option (List (Option (List GEl)))) × Int × Bool) (v869:Option (List GEl)) (s2:(Option (List (Option (List GEl)))) × Int × Bool) (s3:(Option (List (Option (List GEl)))) × Int × Bool) (r) (h:qiz a0 a1 s0 v646 s1 v869 s2 s3=some r):zj pr qlt (qev a0 a1 s0 v646 s1 v869 s2) (qws a0 a1 s0 v646 s1 v869 s2) s3 r:=by
 unfold qiz at h
 rcases qb h with ⟨h966,h⟩ | ⟨h966,h⟩
 ·obtain ⟨v967,h968,h⟩:=qa h
  obtain ⟨v969,h970,h⟩:=qa h
  rcases qb h with ⟨h971,h⟩ | ⟨h971,h⟩
  ·obtain ⟨v972,h973,h⟩:=qa h
   cases h
   exact qq (st':=⟨[(0,sl 8 qm a0,false),(8,sl 1 (sl 3 vel) v972,true),(9,.ptr 0 0,false),(11,sl 3 vel v869,false),(12,.int .i64 s2.2.1,false),(13,.int .i64 (qf .i64 (s3.2.1 + 1)),false),(16,sl 1 qo a1,false),(17,.int .i64 ((a1.getD []).length:Int),false),(18,.int .i64 s0.2.1,false),(26,sl 1 (sl 3 vel) s0.1,false),(27,.int .i64 ((s0.1.getD []).length:Int),false),(28,.int .i64 s1.2.1,false)],[.cells [(.str v646.name,false),(.str v646.kd,false),(.int .i64 v646.pa,false),(.int .i64 v646.pb,false),(.int .i64 v646.sa,false),(.int .i64 v646.sb,false),(.int .i64 v646.cost,false),(.int .i64 v646.stock,false)]]++[.cells [(.str v646.kd,false),(.int .i64 (qf .i64 (v646.pa + s2.2.1)),false),(.int .i64 (qf .i64 (v646.pb + s3.2.1)),false)]]⟩) (by simp only [go_sem,seval,qlt,qev,h966,qi6 h968,qd8 h970,h971,qs2 h973] <;> rfl) (zz rfl rfl (by first | simp only [go_sem,seval,qev] | rfl) (by first | simp only [go_sem,seval,qev] | rfl))
  ·rcases qb h with ⟨h974,h⟩ | ⟨h974,h⟩
   ·obtain ⟨v975,h976,h⟩:=qa h
    cases h
    exact qq (st':=⟨[(0,sl 8 qm a0,false),(8,sl 1 (sl 3 vel) v975,true),(9,.ptr 0 0,false),(11,sl 3 vel v869,false),(12,.int .i64 s2.2.1,false),(13,.int .i64 (qf .i64 (s3.2.1 + 1)),false),(16,sl 1 qo a1,false),(17,.int .i64 ((a1.getD []).length:Int),false),(18,.int .i64 s0.2.1,false),(26,sl 1 (sl 3 vel) s0.1,false),(27,.int .i64 ((s0.1.getD []).length:Int),false),(28,.int .i64 s1.2.1,false)],[.cells [(.str v646.name,false),(.str v646.kd,false),(.int .i64 v646.pa,false),(.int .i64 v646.pb,false),(.int .i64 v646.sa,false),(.int .i64 v646.sb,false),(.int .i64 v646.cost,false),(.int .i64 v646.stock,false)]]++[.cells [(.str v646.kd,false),(.int .i64 (qf .i64 (v646.pa + s2.2.1)),false),(.int .i64 (qf .i64 (v646.pb + s3.2.1)),false)]]⟩) (by simp only [go_sem,seval,qlt,qev,h966,qi6 h968,qd8 h970,h971,h974,qtt h976 h974] <;> rfl) (zz rfl rfl (by first | simp only [go_sem,seval,qev] | rfl) (by first | simp only [go_sem,seval,qev] | rfl))
   ·cases h
 ·cases h
  exact qj (by simp only [go_sem,seval,qlt,qev,h966,qws] <;> rfl)
theorem jhz (a0:Option (List qi)) (a1:Option (List Int)) (s0:(Option (List (Option (List GEl)))) × Int × Bool) (v646:qi) (s1:(Option (List (Option (List GEl)))) × Int × Bool) (v869:Option (List GEl)) (s2:(Option (List (Option (List GEl)))) × Int × Bool) {s3:(Option (List (Option (List GEl)))) × Int × Bool} {d} (h:itO (qiz a0 a1 s0 v646 s1 v869 s2) s3=some d):X pr (.loop qlt) (qev a0 a1 s0 v646 s1 v869 s2 s3)=some (qws a0 a1 s0 v646 s1 v869 s2 d):=z7 (jiu a0 a1 s0 v646 s1 v869 s2) (fun d hh=>by cases hh) h
noncomputable def qjh (a0:Option (List qi)) (a1:Option (List Int)) (s0:(Option (List (Option (List GEl)))) × Int × Bool) (v646:qi) (s1:(Option (List (Option (List GEl)))) × Int × Bool) (v869:Option (List GEl)) (s2:(Option (List (Option (List GEl)))) × Int × Bool):Option (((Option (List (Option (List GEl)))) × Int × Bool) ⊕ (((Option (List (Option (List GEl)))) × Bool × Int))):=
 cond (decide (s2.2.1≤v646.sa))
  (qe (itO (qiz a0 a1 s0 v646 s1 v869 s2) (s2.1,qf .i64 (0 - v646.sb),s2.2.2)) fun d977=>
  some (.inl (d977.1,qf .i64 (s2.2.1 + 1),d977.2.1)))
  (some (.inr (s2.1,s2.2.2,s2.2.1)))
def qsm (a0:Option (List qi)) (a1:Option (List Int)) (s0:(Option (List (Option (List GEl)))) × Int × Bool) (v646:qi) (s1:(Option (List (Option (List GEl)))) × Int × Bool) (v869:Option (List GEl)) (s2:(Option (List (Option (List GEl)))) × Int × Bool):ASt:=⟨[(0,sl 8 qm a0,false),(8,sl 1 (sl 3 vel) s2.1,s2.2.2),(9,.ptr 0 0,false),(11,sl 3 vel v869,false),(12,.int .i64 s2.2.1,false),(16,sl 1 qo a1,false),(17,.int .i64 ((a1.getD []).length:Int),false),(18,.int .i64 s0.2.1,false),(26,sl 1 (sl 3 vel) s0.1,false),(27,.int .i64 ((s0.1.getD []).length:Int),false),(28,.int .i64 s1.2.1,false)],[.cells [(.str v646.name,false),(.str v646.kd,false),(.int .i64 v646.pa,false),(.int .i64 v646.pb,false),(.int .i64 v646.sa,false),(.int .i64 v646.sb,false),(.int .i64 v646.cost,false),(.int .i64 v646.stock,false)]]⟩
def qwl (a0:Option (List qi)) (a1:Option (List Int)) (s0:(Option (List (Option (List GEl)))) × Int × Bool) (v646:qi) (s1:(Option (List (Option (List GEl)))) × Int × Bool) (v869:Option (List GEl)) (d:((Option (List (Option (List GEl)))) × Bool × Int)):ji × ASt:=(.exit 4,⟨[(0,sl 8 qm a0,false),(8,sl 1 (sl 3 vel) d.1,d.2.1),(9,.ptr 0 0,false),(11,sl 3 vel v869,false),(12,.int .i64 d.2.2,false),(16,sl 1 qo a1,false),(17,.int .i64 ((a1.getD []).length:Int),false),(18,.int .i64 s0.2.1,false),(26,sl 1 (sl 3 vel) s0.1,false),(27,.int .i64 ((s0.1.getD []).length:Int),false),(28,.int .i64 s1.2.1,false),(38,.bool false,false)],[.cells [(.str v646.name,false),(.str v646.kd,false),(.int .i64 v646.pa,false),(.int .i64 v646.pb,false),(.int .i64 v646.sa,false),(.int .i64 v646.sb,false),(.int .i64 v646.cost,false),(.int .i64 v646.stock,false)]]⟩)
theorem jjp (a0:Option (List qi)) (a1:Option (List Int)) (s0:(Option (List (Option (List GEl)))) × Int × Bool) (v646:qi) (s1:(Option (List (Option (List GEl)))) × Int × Bool) (v869:Option (List GEl)) (s2:(Option (List (Option (List GEl)))) × Int × Bool) (r) (h:qjh a0 a1 s0 v646 s1 v869 s2=some r):zj pr qo0 (qsm a0 a1 s0 v646 s1 v869) (qwl a0 a1 s0 v646 s1 v869) s2 r:=by
 unfold qjh at h
 rcases qb h with ⟨h943,h⟩ | ⟨h943,h⟩
 ·obtain ⟨d977,h978,h⟩:=qa h
  have wh978:X pr (.loop qlt) ⟨[(0,sl 8 qm a0,false),(8,sl 1 (sl 3 vel) s2.1,s2.2.2),(9,.ptr 0 0,false),(11,sl 3 vel v869,false),(12,.int .i64 s2.2.1,false),(13,.int .i64 (qf .i64 (0 - v646.sb)),false),(16,sl 1 qo a1,false),(17,.int .i64 ((a1.getD []).length:Int),false),(18,.int .i64 s0.2.1,false),(26,sl 1 (sl 3 vel) s0.1,false),(27,.int .i64 ((s0.1.getD []).length:Int),false),(28,.int .i64 s1.2.1,false)],[.cells [(.str v646.name,false),(.str v646.kd,false),(.int .i64 v646.pa,false),(.int .i64 v646.pb,false),(.int .i64 v646.sa,false),(.int .i64 v646.sb,false),(.int .i64 v646.cost,false),(.int .i64 v646.stock,false)]]⟩=some (.exit 6,⟨[(0,sl 8 qm a0,false),(8,sl 1 (sl 3 vel) d977.1,d977.2.1),(9,.ptr 0 0,false),(11,sl 3 vel v869,false),(12,.int .i64 s2.2.1,false),(13,.int .i64 d977.2.2,false),(16,sl 1 qo a1,false),(17,.int .i64 ((a1.getD []).length:Int),false),(18,.int .i64 s0.2.1,false),(26,sl 1 (sl 3 vel) s0.1,false),(27,.int .i64 ((s0.1.getD []).length:Int),false),(28,.int .i64 s1.2.1,false),(47,.bool false,false)],[.cells [(.str v646.name,false),(.str v646.kd,false),(.int .i64 v646.pa,false),(.int .i64 v646.pb,false),(.int .i64 v646.sa,false),(.int .i64 v646.sb,false),(.int .i64 v646.cost,false),(.int .i64 v646.stock,false)]]⟩):=jhz a0 a1 s0 v646 s1 v869 s2 h978
  cases h
  exact qq (st':=⟨[(0,sl 8 qm a0,false),(8,sl 1 (sl 3 vel) d977.1,d977.2.1),(9,.ptr 0 0,false),(11,sl 3 vel v869,false),(12,.int .i64 (qf .i64 (s2.2.1 + 1)),false),(16,sl 1 qo a1,false),(17,.int .i64 ((a1.getD []).length:Int),false),(18,.int .i64 s0.2.1,false),(26,sl 1 (sl 3 vel) s0.1,false),(27,.int .i64 ((s0.1.getD []).length:Int),false),(28,.int .i64 s1.2.1,false)],[.cells [(.str v646.name,false),(.str v646.kd,false),(.int .i64 v646.pa,false),(.int .i64 v646.pb,false),(.int .i64 v646.sa,false),(.int .i64 v646.sb,false),(.int .i64 v646.cost,false),(.int .i64 v646.stock,false)]]⟩) (by simp only [go_sem,seval,qo0,qsm,h943,wh978] <;> rfl) (jb (Nat.le_refl _))
 ·cases h
  exact qj (by simp only [go_sem,seval,qo0,qsm,h943,qwl] <;> rfl)
theorem jia (a0:Option (List qi)) (a1:Option (List Int)) (s0:(Option (List (Option (List GEl)))) × Int × Bool) (v646:qi) (s1:(Option (List (Option (List GEl)))) × Int × Bool) (v869:Option (List GEl)) {s2:(Option (List (Option (List GEl)))) × Int × Bool} {d} (h:itO (qjh a0 a1 s0 v646 s1 v869) s2=some d):X pr (.loop qo0) (qsm a0 a1 s0 v646 s1 v869 s2)=some (qwl a0 a1 s0 v646 s1 v869 d):=z7 (jjp a0 a1 s0 v646 s1 v869) (fun d hh=>by cases hh) h
noncomputable def ql3 (a0:Option (List qi)) (a1:Option (List Int)) (s0:(Option (List (Option (List GEl)))) × Int × Bool) (v646:qi) (s1:(Option (List (Option (List GEl)))) × Int × Bool):Option (((Option (List (Option (List GEl)))) × Int × Bool) ⊕ (((Option (List (Option (List GEl)))) × Bool × Int))):=
 cond (decide (s1.2.1 < ((s0.1.getD []).length:Int)))
  (qe (zw (s0.1.getD []) s1.2.1) fun v869=>
  qe (itO (qjh a0 a1 s0 v646 s1 v869) (s1.1,qf .i64 (0 - v646.sa),s1.2.2)) fun d979=>
  some (.inl (d979.1,qf .i64 (s1.2.1 + 1),d979.2.1)))
  (some (.inr (s1.1,s1.2.2,s1.2.1)))
def qsn (a0:Option (List qi)) (a1:Option (List Int)) (s0:(Option (List (Option (List GEl)))) × Int × Bool) (v646:qi) (s1:(Option (List (Option (List GEl)))) × Int × Bool):ASt:=⟨[(0,sl 8 qm a0,false),(8,sl 1 (sl 3 vel) s1.1,s1.2.2),(9,.ptr 0 0,false),(16,sl 1 qo a1,false),(17,.int .i64 ((a1.getD []).length:Int),false),(18,.int .i64 s0.2.1,false),(26,sl 1 (sl 3 vel) s0.1,false),(27,.int .i64 ((s0.1.getD []).length:Int),false),(28,.int .i64 s1.2.1,false)],[.cells [(.str v646.name,false),(.str v646.kd,false),(.int .i64 v646.pa,false),(.int .i64 v646.pb,false),(.int .i64 v646.sa,false),(.int .i64 v646.sb,false),(.int .i64 v646.cost,false),(.int .i64 v646.stock,false)]]⟩
def qwc (a0:Option (List qi)) (a1:Option (List Int)) (s0:(Option (List (Option (List GEl)))) × Int × Bool) (v646:qi) (d:((Option (List (Option (List GEl)))) × Bool × Int)):ji × ASt:=(.exit 2,⟨[(0,sl 8 qm a0,false),(8,sl 1 (sl 3 vel) d.1,d.2.1),(9,.ptr 0 0,false),(16,sl 1 qo a1,false),(17,.int .i64 ((a1.getD []).length:Int),false),(18,.int .i64 s0.2.1,false),(26,sl 1 (sl 3 vel) s0.1,false),(27,.int .i64 ((s0.1.getD []).length:Int),false),(28,.int .i64 d.2.2,false),(29,.bool false,false)],[.cells [(.str v646.name,false),(.str v646.kd,false),(.int .i64 v646.pa,false),(.int .i64 v646.pb,false),(.int .i64 v646.sa,false),(.int .i64 v646.sb,false),(.int .i64 v646.cost,false),(.int .i64 v646.stock,false)]]⟩)
theorem jlj (a0:Option (List qi)) (a1:Option (List Int)) (s0:(Option (List (Option (List GEl)))) × Int × Bool) (v646:qi) (s1:(Option (List (Option (List GEl)))) × Int × Bool) (r) (h:ql3 a0 a1 s0 v646 s1=some r):zj pr qon (qsn a0 a1 s0 v646) (qwc a0 a1 s0 v646) s1 r:=by
 unfold ql3 at h
 rcases qb h with ⟨h868,h⟩ | ⟨h868,h⟩
 ·obtain ⟨v869,h870,h⟩:=qa h
  obtain ⟨d979,h980,h⟩:=qa h
  have wh980:X pr (.loop qo0) ⟨[(0,sl 8 qm a0,false),(8,sl 1 (sl 3 vel) s1.1,s1.2.2),(9,.ptr 0 0,false),(11,sl 3 vel v869,false),(12,.int .i64 (qf .i64 (0 - v646.sa)),false),(16,sl 1 qo a1,false),(17,.int .i64 ((a1.getD []).length:Int),false),(18,.int .i64 s0.2.1,false),(26,sl 1 (sl 3 vel) s0.1,false),(27,.int .i64 ((s0.1.getD []).length:Int),false),(28,.int .i64 s1.2.1,false)],[.cells [(.str v646.name,false),(.str v646.kd,false),(.int .i64 v646.pa,false),(.int .i64 v646.pb,false),(.int .i64 v646.sa,false),(.int .i64 v646.sb,false),(.int .i64 v646.cost,false),(.int .i64 v646.stock,false)]]⟩=some (.exit 4,⟨[(0,sl 8 qm a0,false),(8,sl 1 (sl 3 vel) d979.1,d979.2.1),(9,.ptr 0 0,false),(11,sl 3 vel v869,false),(12,.int .i64 d979.2.2,false),(16,sl 1 qo a1,false),(17,.int .i64 ((a1.getD []).length:Int),false),(18,.int .i64 s0.2.1,false),(26,sl 1 (sl 3 vel) s0.1,false),(27,.int .i64 ((s0.1.getD []).length:Int),false),(28,.int .i64 s1.2.1,false),(38,.bool false,false)],[.cells [(.str v646.name,false),(.str v646.kd,false),(.int .i64 v646.pa,false),(.int .i64 v646.pb,false),(.int .i64 v646.sa,false),(.int .i64 v646.sb,false),(.int .i64 v646.cost,false),(.int .i64 v646.stock,false)]]⟩):=jia a0 a1 s0 v646 s1 v869 h980
  cases h
  exact qq (st':=⟨[(0,sl 8 qm a0,false),(8,sl 1 (sl 3 vel) d979.1,d979.2.1),(9,.ptr 0 0,false),(16,sl 1 qo a1,false),(17,.int .i64 ((a1.getD []).length:Int),false),(18,.int .i64 s0.2.1,false),(26,sl 1 (sl 3 vel) s0.1,false),(27,.int .i64 ((s0.1.getD []).length:Int),false),(28,.int .i64 (qf .i64 (s1.2.1 + 1)),false)],[.cells [(.str v646.name,false),(.str v646.kd,false),(.int .i64 v646.pa,false),(.int .i64 v646.pb,false),(.int .i64 v646.sa,false),(.int .i64 v646.sb,false),(.int .i64 v646.cost,false),(.int .i64 v646.stock,false)]]⟩) (by simp only [go_sem,seval,qon,qsn,h868,q9 h870,wh980] <;> rfl) (jb (Nat.le_refl _))
 ·cases h
  exact qj (by simp only [go_sem,seval,qon,qsn,h868,qwc] <;> rfl)
theorem jmv (a0:Option (List qi)) (a1:Option (List Int)) (s0:(Option (List (Option (List GEl)))) × Int × Bool) (v646:qi) {s1:(Option (List (Option (List GEl)))) × Int × Bool} {d} (h:itO (ql3 a0 a1 s0 v646) s1=some d):X pr (.loop qon) (qsn a0 a1 s0 v646 s1)=some (qwc a0 a1 s0 v646 d):=z7 (jlj a0 a1 s0 v646) (fun d hh=>by cases hh) h
noncomputable def qi0 (a0:Option (List qi)) (a1:Option (List Int)) (s0:(Option (List (Option (List GEl)))) × Int × Bool):Option (((Option (List (Option (List GEl)))) × Int × Bool) ⊕ (((Option (List (Option (List GEl)))) × Bool × Int))):=
 cond (decide (s0.2.1 < ((a1.getD []).length:Int)))
  (qe (zw (a1.getD []) s0.2.1) fun v644=>
  qe (zw (a0.getD []) v644) fun v646=>
  qe (itO (ql3 a0 a1 s0 v646) (none,0,false)) fun d981=>
  some (.inl (d981.1,qf .i64 (s0.2.1 + 1),d981.2.1)))
  (some (.inr (s0.1,s0.2.2,s0.2.1)))
def qkk (a0:Option (List qi)) (a1:Option (List Int)) (s0:(Option (List (Option (List GEl)))) × Int × Bool):ASt:=⟨[(0,sl 8 qm a0,false),(5,sl 1 (sl 3 vel) s0.1,s0.2.2),(16,sl 1 qo a1,false),(17,.int .i64 ((a1.getD []).length:Int),false),(18,.int .i64 s0.2.1,false)],[]⟩
def qwg (a0:Option (List qi)) (a1:Option (List Int)) (d:((Option (List (Option (List GEl)))) × Bool × Int)):ji × ASt:=(.exit 0,⟨[(0,sl 8 qm a0,false),(5,sl 1 (sl 3 vel) d.1,d.2.1),(16,sl 1 qo a1,false),(17,.int .i64 ((a1.getD []).length:Int),false),(18,.int .i64 d.2.2,false),(19,.bool false,false)],[]⟩)
theorem jmp (a0:Option (List qi)) (a1:Option (List Int)) (s0:(Option (List (Option (List GEl)))) × Int × Bool) (r) (h:qi0 a0 a1 s0=some r):zj pr qo6 (qkk a0 a1) (qwg a0 a1) s0 r:=by
 unfold qi0 at h
 rcases qb h with ⟨h643,h⟩ | ⟨h643,h⟩
 ·obtain ⟨v644,h645,h⟩:=qa h
  obtain ⟨v646,h647,h⟩:=qa h
  obtain ⟨d981,h982,h⟩:=qa h
  have wh982:X pr (.loop qon) ⟨[(0,sl 8 qm a0,false),(8,.list true 0 [],false),(9,.ptr 0 0,false),(16,sl 1 qo a1,false),(17,.int .i64 ((a1.getD []).length:Int),false),(18,.int .i64 s0.2.1,false),(26,sl 1 (sl 3 vel) s0.1,false),(27,.int .i64 ((s0.1.getD []).length:Int),false),(28,.int .i64 0,false)],[.cells [(.str v646.name,false),(.str v646.kd,false),(.int .i64 v646.pa,false),(.int .i64 v646.pb,false),(.int .i64 v646.sa,false),(.int .i64 v646.sb,false),(.int .i64 v646.cost,false),(.int .i64 v646.stock,false)]]⟩=some (.exit 2,⟨[(0,sl 8 qm a0,false),(8,sl 1 (sl 3 vel) d981.1,d981.2.1),(9,.ptr 0 0,false),(16,sl 1 qo a1,false),(17,.int .i64 ((a1.getD []).length:Int),false),(18,.int .i64 s0.2.1,false),(26,sl 1 (sl 3 vel) s0.1,false),(27,.int .i64 ((s0.1.getD []).length:Int),false),(28,.int .i64 d981.2.2,false),(29,.bool false,false)],[.cells [(.str v646.name,false),(.str v646.kd,false),(.int .i64 v646.pa,false),(.int .i64 v646.pb,false),(.int .i64 v646.sa,false),(.int .i64 v646.sb,false),(.int .i64 v646.cost,false),(.int .i64 v646.stock,false)]]⟩):=jmv a0 a1 s0 v646 h982
  cases h
  exact qq (st':=⟨[(0,sl 8 qm a0,false),(5,sl 1 (sl 3 vel) d981.1,d981.2.1),(16,sl 1 qo a1,false),(17,.int .i64 ((a1.getD []).length:Int),false),(18,.int .i64 (qf .i64 (s0.2.1 + 1)),false)],[]++[.cells [(.str v646.name,false),(.str v646.kd,false),(.int .i64 v646.pa,false),(.int .i64 v646.pb,false),(.int .i64 v646.sa,false),(.int .i64 v646.sb,false),(.int .i64 v646.cost,false),(.int .i64 v646.stock,false)]]⟩) (by simp only [go_sem,seval,qo6,qkk,h643,q9 h645,q9 h647,wh982] <;> rfl) (zz rfl rfl (by first | simp only [go_sem,seval,qkk] | rfl) (by first | simp only [go_sem,seval,qkk] | rfl))
 ·cases h
  exact qj (by simp only [go_sem,seval,qo6,qkk,h643,qwg] <;> rfl)
theorem jhw (a0:Option (List qi)) (a1:Option (List Int)) {s0:(Option (List (Option (List GEl)))) × Int × Bool} {d} (h:itO (qi0 a0 a1) s0=some d):X pr (.loop qo6) (qkk a0 a1 s0)=some (qwg a0 a1 d):=z7 (jmp a0 a1) (fun d hh=>by cases hh) h
noncomputable def f56 (a0:Option (List qi)) (a1:Option (List Int)):Option ((Option (List (Option (List GEl)))) × Bool):=
 qe (itO (qi0 a0 a1) (some [none],0,true)) fun d983=>
 some (d983.1,d983.2.1)
theorem W56 {a0:Option (List qi)} {a1:Option (List Int)} {r} (h:f56 a0 a1=some r):qc pr (X pr) 56 [sl 8 qm a0,sl 1 qo a1]=some (sl 1 (sl 3 vel) r.1,r.2):=by
 unfold f56 at h
 obtain ⟨d983,h984,h⟩:=qa h
 have wh984:X pr (.loop qo6) ⟨[(0,sl 8 qm a0,false),(5,.list false 1 [.list true 0 []],true),(16,sl 1 qo a1,false),(17,.int .i64 ((a1.getD []).length:Int),false),(18,.int .i64 0,false)],[]⟩=some (.exit 0,⟨[(0,sl 8 qm a0,false),(5,sl 1 (sl 3 vel) d983.1,d983.2.1),(16,sl 1 qo a1,false),(17,.int .i64 ((a1.getD []).length:Int),false),(18,.int .i64 d983.2.2,false),(19,.bool false,false)],[]⟩):=jhw a0 a1 h984
 have hr:(d983.1,d983.2.1)=r:=Option.some.inj h
 subst hr
 have this:∃ hh,jl pr (X pr) 56 [sl 8 qm a0,sl 1 qo a1] []=some (sl 1 (sl 3 vel) d983.1,d983.2.1,hh):=by
  rw [qh (show pr.fns 56=some c56 from rfl) (by simp)]
  simp only [go_sem,seval,c56,wh984]
  exact ⟨_,rfl⟩
 obtain ⟨hh,this⟩:=this
 exact z6 rfl this (by first | rfl | simp only [go_sem,seval]) (by first | rfl | simp only [go_sem,seval]) (by first | rfl | simp only [go_sem,seval])
end Go.Z
