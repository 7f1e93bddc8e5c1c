/- What is shipped stays so. -/
import Derived.Test.YtimdocpnkimlfaaGreatDoorWSF
set_option linter.unusedVariables false
set_option linter.unusedSimpArgs false
namespace Go.W
structure cJ (x y:j8):Prop where
 name:y.name=x.name
 shipped:y.shipped=x.shipped
 same:x.shipped=true→y.version=x.version∧y.uses=x.uses∧y.results=x.results∧y.partner=x.partner
theorem cJ.refl (x:j8):cJ x x:=⟨rfl,rfl,fun _=>⟨rfl,rfl,rfl,rfl⟩⟩
theorem cJ.trans (x y z:j8)(h:cJ x y)(g:cJ y z):cJ x z:=⟨g.name.trans h.name,g.shipped.trans h.shipped,fun hx=>by
 obtain⟨a,b,c,d⟩:=h.same hx
 obtain⟨a',b',c',d'⟩:=g.same (h.shipped.trans hx)
 exact⟨a'.trans a,b'.trans b,c'.trans c,d'.trans d⟩⟩
structure cX (r s:jo):Prop where
 old:cQ cJ r.units s.units
 new:∀(i:Nat) (y:j8),r.units.length≤i→s.units[i]?=some y→y.shipped=false
theorem cX.same {r s:jo}(h:s.units=r.units):cX r s:=by
 refine⟨by rw[h];exact .refl cJ.refl _,fun i y hi hy=>?_⟩
 rw[h]at hy
 have:=(List.getElem?_eq_some_iff.1 hy).1
 omega
theorem cX.set {r s:jo}{i:Nat}{x y:j8}(hx:r.units[i]?=some x)(hs:s.units=r.units.set i y)(F9:cJ x y):cX r s:=by
 refine⟨by rw[hs];exact .set cJ.refl hx F9,fun k z hi hz=>?_⟩
 rw[hs]at hz
 have:=(List.getElem?_eq_some_iff.1 hz).1
 rw[List.length_set]at this
 omega
theorem cX.trans {r s t:jo}(h:cX r s)(g:cX s t):cX r t:=by
 refine⟨h.old.trans cJ.trans g.old,fun i y hi hy=>?_⟩
 rcases Nat.lt_or_ge i s.units.length with hl|hl
 ·obtain⟨z,z1,z2⟩:=g.old i _ (List.getElem?_eq_getElem hl)
  rw[hy]at z1;cases z1
  rw[z2.shipped]
  exact h.new i _ hi (List.getElem?_eq_getElem hl)
 ·exact g.new i y hl hy
end Go.W
namespace Go.W
theorem qsg {wrap:Int→Int}{l m:List cB}{i:Nat}{h h':iw}(hr:kj wrap i h (l++m)=.ok h'):∃q,kj wrap i h l=.ok q∧kj wrap (i+l.length) q m=.ok h':=by
 rw[qj8]at hr
 cases hq:kj wrap i h l with
 |error x=>rw[hq]at hr;cases hr
 |ok q=>rw[hq]at hr;exact⟨q,rfl,hr⟩
theorem q4s {wrap:Int→Int}{l m:List cB}{h':iw}(hr:run wrap (l++m)=.ok h'):∃q,run wrap l=.ok q∧kj wrap l.length q m=.ok h':=by
 unfold run at hr ⊢
 split at hr
 ·cases hr
 rename_i hl
 rw[List.length_append]at hl
 obtain⟨q,h1,h2⟩:=qsg hr
 rw[if_neg (by omega)]
 rw[Nat.zero_add]at h2
 exact⟨q,h1,h2⟩
end Go.W
namespace Go.W
def q7r (a u:j8):Prop:=u.version=a.version∧u.uses.length=a.uses.length∧u.results.length=a.results.length∧u.partner=a.partner
structure mV (M:Str→j8)(S:jo):Prop where
 ent:∀n,(M n).name≠[]→∃u∈S.units,u.name=n∧u.shipped=true∧q7r (M n) u
 has:∀u∈S.units,u.shipped=true→(M u.name).name≠[]
theorem mV.empty {M:Str→j8}(hM:∀n,(M n).name=[]){S:jo}(h:S.units=[]):mV M S:=
 ⟨fun n hn=>absurd (hM n) hn,fun u hu=>by rw[h]at hu;cases hu⟩
end Go.W
