/- Chapter 10, plain. -/
import Derived.Test.YtimdocpnkimlfaaGreatDoorEM
set_option linter.unusedVariables false
set_option linter.unusedSimpArgs false
set_option maxRecDepth 100000
set_option maxHeartbeats 4000000
open Option renaming some→I
namespace Go.Z
open Go Go.Abs Go.W
theorem jhs {α:Type}{key:α→List UInt8}{l:List α}(h:zz key l)(p:α→Bool){x:α}(hx:x∈l):(((l.filter p).map key).any fun n=>decide (n=key x))=p x:=by
 apply Bool.eq_iff_iff.2
 simp only[List.any_eq_true,List.mem_map,List.mem_filter,decide_eq_true_eq]
 constructor
 ·rintro ⟨n,⟨y,⟨hy,hp⟩,rfl⟩,e⟩
  rw[←Ap h hy hx e];exact hp
 ·intro hp
  exact⟨key x,⟨x,⟨hx,hp⟩,rfl⟩,rfl⟩
theorem q9o {α:Type}{key:α→List UInt8}{l:List α}(w:zz key l){k:Nat}{u:α}(hu:l[k]?=I u):l.findIdx? (fun x=>decide (key x=key u))=I k:=by
 cases hk:l.findIdx? (fun x=>decide (key x=key u))with
 |none=>
  have:=(dk.1 hk) u (List.mem_of_getElem? hu)
  simp at this
 |some j=>
  obtain⟨x,x1,x2,_⟩:=bg hk
  by_cases hj:j=k
  ·rw[hj]
  ·exact absurd (of_decide_eq_true x2) (NP w x1 hu hj)
theorem q78 {S:ju}(w:eX S){k:Nat}{u:aW}(hu:S.units[k]?=I u):zp S u.name=I k:=q9o (key:=fun x:aW=>x.name) w.units hu
theorem jdg {S:ju}(w:eX S){k:Nat}{x:jd}(hx:S.lots[k]?=I x):zt S x.name=I k:=q9o (key:=fun x:jd=>x.name) w.lots hx
theorem fp.few {l h n}(j:fp l h)(hn:(l.getD []).length≤n):(now h).lots.length≤n∧(now h).units.length≤n∧∀u∈(now h).units,u.uses.length≤n:=by
 have:=j.short
 have s:=j.sb.1
 exact⟨Nat.le_trans s.L (by omega),Nat.le_trans s.U (by omega),fun u hu=>Nat.le_trans (s.N u hu).1 (by omega)⟩
theorem fp.xl {l h}{g:aj}(j:fp l h)(hg:g.er=now h){k:Nat}{u:ay}(hu:(g.units.getD [])[k]?=I u):
  f21 l u.name=I (jl (u.er.uses.map (·.k)),0)∧f25 l u.name=I (lE (qe .i64) (now h) u.er)∧(∃d,ky (now h) u.er=I d∧f24 l u.name=I (jl (mY d u.er),0))∧u.er.uses.length≤SM:=by
 have h1:(now h).units[k]?=I u.er:=by rw[←hg,mX,List.getElem?_map,hu];rfl
 exact j.made (n:=u.name) (q78 j.xj h1) h1
theorem jle {u:aW}{n:List UInt8}(hl:u.uses.length≤SM):f22 (jl (u.uses.map (·.k))) n=I (oK u n):=by
 rw[Yn (by rw[j8,List.length_map];exact hl),j8,List.any_map]
 rfl
end Go.Z
