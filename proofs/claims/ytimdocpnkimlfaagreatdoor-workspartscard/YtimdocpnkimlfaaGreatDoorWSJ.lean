/- What is shipped stays so. -/
import Derived.Test.YtimdocpnkimlfaaGreatDoorWSF
import Derived.Test.YtimdocpnkimlfaaGreatDoorWSE
set_option linter.unusedVariables false
set_option linter.unusedSimpArgs false
open List renaming getElem?_eq_getElem→I,mem_of_getElem?→En,getElem?_eq_some_iff→Ey,getElem?_of_mem→Gn,getElem_mem→Gs,getElem?_set_ne→Gt,getLast?_eq_getElem?→Gw,length_dropLast→Gy,mem_singleton→Gz,length_append→G0,any_eq_false→G1,all_eq_true→G5
open Bool renaming true→Gp,false→Gv
open Option renaming some→Gq,bind_some→G2
namespace Go.W
structure dm (x y:aW):Prop where
 name:y.name=x.name
 shipped:y.shipped=x.shipped
 same:x.shipped=Gp→y.version=x.version∧y.uses=x.uses∧y.results=x.results∧y.partner=x.partner
theorem dm.refl (x:aW):dm x x:=⟨rfl,rfl,fun _=>⟨rfl,rfl,rfl,rfl⟩⟩
theorem dm.trans (x y z:aW)(h:dm x y)(g:dm y z):dm x z:=⟨g.name.trans h.name,g.shipped.trans h.shipped,fun hx=>by
 obtain⟨a,b,c,d⟩:=h.same hx
 obtain⟨a',b',c',d'⟩:=g.same (h.shipped.trans hx)
 exact⟨a'.trans a,b'.trans b,c'.trans c,d'.trans d⟩⟩
structure cI (r s:ju):Prop where
 old:dH dm r.units s.units
 new:∀(i:Nat) (y:aW),r.units.length≤i→s.units[i]?=Gq y→y.shipped=Gv
theorem cI.same {r s:ju}(h:s.units=r.units):cI r s:=by
 refine⟨by rw[h];exact .refl dm.refl _,fun i y hi hy=>?_⟩
 rw[h]at hy
 have:=(Ey.1 hy).1
 omega
theorem cI.set {r s:ju}{i:Nat}{x y:aW}(hx:r.units[i]?=Gq x)(hs:s.units=r.units.set i y)(KP:dm x y):cI r s:=by
 refine⟨by rw[hs];exact .set dm.refl hx KP,fun k z hi hz=>?_⟩
 rw[hs]at hz
 have:=(Ey.1 hz).1
 rw[List.length_set]at this
 omega
theorem cI.trans {r s t:ju}(h:cI r s)(g:cI s t):cI r t:=by
 refine⟨h.old.trans dm.trans g.old,fun i y hi hy=>?_⟩
 rcases Nat.lt_or_ge i s.units.length with hl|hl
 ·obtain⟨z,z1,z2⟩:=g.old i _ (I hl)
  rw[hy]at z1;cases z1
  rw[z2.shipped]
  exact h.new i _ hi (I hl)
 ·exact g.new i y hl hy
theorem jbp {wrap:Int→Int}{r r':ju}{e:ek}(hk:e.kind≠kw)(ha:apply wrap r e=.ok r'):cI r r':=by
 unfold apply at ha
 split at ha
 ·unfold l6 at ha
  repeat' split at ha
  all_goals first|(cases ha;done)|skip
  ·cases ha;exact .same rfl
  ·cases ha;exact .same rfl
  ·cases ha
   refine⟨.add dm.refl _ _,fun i y hi hy=>?_⟩
   rw[List.getElem?_append_right hi]at hy
   rw[Gz.1 (En hy)]
 split at ha
 ·unfold ku at ha
  repeat' split at ha
  all_goals first|(cases ha;done)|(cases ha;exact .same rfl)
 split at ha
 ·unfold pk at ha
  repeat' split at ha
  all_goals first|(cases ha;done)|(cases ha;exact .same rfl)
 unfold lF at ha
 split at ha
 ·cases ha
 split at ha
 ·cases ha
 rename_i _ i hi _ u hu
 split at ha
 ·unfold qC at ha
  split at ha
  ·cases ha
  split at ha
  ·cases ha
  split at ha
  ·cases ha
  rename_i hs
  repeat' split at ha
  all_goals first|(cases ha;done)|skip
  cases ha
  exact .set hu rfl ⟨rfl,rfl,fun h=>absurd h hs⟩
 split at ha
 ·unfold qD at ha
  split at ha
  ·cases ha
  split at ha
  ·cases ha
  rename_i _ k eV _ v hv
  split at ha
  ·cases ha
  rename_i rR
  split at ha
  ·cases ha
  split at ha
  ·cases ha
  rename_i hs
  split at ha
  ·cases ha
  cases ha
  have h1:¬u.shipped=Gp:=fun h=>hs (.inl h)
  have h2:¬v.shipped=Gp:=fun h=>hs (.inr h)
  refine cI.trans (s:=av r i { u with partner:=v.name }) (.set hu rfl ⟨rfl,rfl,fun h=>absurd h h1⟩) (.set (x:=v) ?_ rfl ⟨rfl,rfl,fun h=>absurd h h2⟩)
  show(r.units.set i _)[k]?=_
  rw[Gt rR];exact hv
 split at ha
 ·split at ha
  ·cases ha
  rename_i hs
  repeat' split at ha
  all_goals first|(cases ha;done)|skip
  cases ha;exact .set hu rfl ⟨rfl,rfl,fun h=>absurd h hs⟩
 split at ha
 ·split at ha
  ·cases ha
  rename_i hs
  repeat' split at ha
  all_goals first|(cases ha;done)|skip
  cases ha;exact .set hu rfl ⟨rfl,rfl,fun h=>absurd h hs⟩
 try rw[if_neg hk]at ha
 split at ha
 ·cases ha
 cases ha
 exact .set hu rfl ⟨rfl,rfl,fun _=>⟨rfl,rfl,rfl,rfl⟩⟩
theorem qwe {wrap:Int→Int}{r r':ju}{e:ek}(hk:e.kind≠kw)(h:after wrap r e=.ok r'):cI r r':=by
 unfold after at h
 split at h
 ·cases h
 split at h
 ·cases h
 rename_i r1 ha
 cases h
 have:=jbp hk ha
 exact⟨this.old,this.new⟩
theorem jdh {wrap:Int→Int}{r r':ju}{e:ek}(hk:e.kind=kw)(h:after wrap r e=.ok r'):∃i u,zp r (nm e 0)=Gq i∧r.units[i]?=Gq u∧lE wrap r u=0∧r'.units=r.units.set i { u with shipped:=Gp }∧r'.ae=r.ae∧r'.lots=r.lots:=by
 unfold after at h
 split at h
 ·cases h
 split at h
 ·cases h
 rename_i r1 ha
 cases h
 unfold apply at ha
 rw[hk,if_neg (by decide),if_neg (by decide),if_neg (by decide)]at ha
 unfold lF at ha
 split at ha
 ·cases ha
 rename_i _ i hi
 split at ha
 ·cases ha
 rename_i _ u hu
 simp only[hk]at ha
 rw[if_neg (by decide),if_neg (by decide),if_neg (by decide),if_neg (by decide),if_pos trivial]at ha
 split at ha
 ·cases ha
 rename_i hr
 cases ha
 exact⟨i,u,hi,hu,by simpa using hr,rfl,rfl,rfl⟩
theorem q3v {wrap:Int→Int}{r:ju}{u:aW}(h:lE wrap r u=0):u.shipped=Gv∧(∃d,ky r u=Gq d∧mY d u=[])∧nQ r u=Gq u.version∧vS r u=Gv:=by
 unfold lE at h
 split at h
 ·cases h
 rename_i hs
 split at h
 ·cases h
 rename_i hv
 split at h
 ·cases h
 rename_i d hd
 split at h
 ·cases h
 split at h
 ·cases h
 rename_i hm
 split at h
 ·cases h
 rename_i hh
 refine⟨by simpa using hs,⟨d,hd,?_⟩,by by_cases hx:nQ r u=Gq u.version<;>simp_all,by simpa using hh⟩
 cases hq:mY d u with
 |nil=>rfl
 |cons a l=>rw[hq]at hm;simp at hm
def wi (u:aW):List lj→Bool
 | []=>Gv
 |p::l=>if p.name≠u.product then wi u l else if(p.aM.length:Int)≠u.version∨u.version<1 then Gv else
   match p.aM[(u.version-1).toNat]? with
   |none=>Gv
   |some d=>d.az.all fun t=>iW u t
theorem Yo {u:aW}:∀ {l:List lj} {k:Nat} {p:lj},l.findIdx? (fun x=>decide (x.name=u.product))=Gq k→l[k]?=Gq p→wi u l=if(p.aM.length:Int)≠u.version∨u.version<1 then Gv else
   match p.aM[(u.version-1).toNat]? with
   |none=>Gv
   |some d=>d.az.all fun t=>iW u t
 | [],k,p,h,_=>by simp at h
 |q::l,k,p,h,hp=>by
  rw[List.findIdx?_cons]at h
  by_cases hq:q.name=u.product
  ·rw[decide_eq_true hq]at h
   simp only[if_true,Gq.injEq]at h
   subst h
   simp only[List.getElem?_cons_zero,Gq.injEq]at hp
   subst hp
   simp only[wi,if_neg (not_not_intro hq)]
  ·rw[decide_eq_false hq]at h
   simp only[Bool.false_eq_true,if_false,Option.map_eq_some_iff]at h
   obtain⟨j,hj,rfl⟩:=h
   rw[List.getElem?_cons_succ]at hp
   simp only[wi,if_pos hq]
   exact Yo hj hp
theorem q5j {wrap:Int→Int}{r:ju}{u:aW}(h:lE wrap r u=0):wi { u with shipped:=Gp } r.ae=Gp:=by
 obtain⟨_,⟨d,hd,hm⟩,hv,_⟩:=q3v h
 unfold nQ at hv
 unfold ky at hd
 cases hp:ko r u.product with
 |none=>rw[hp]at hv;cases hv
 |some p=>
  rw[hp]at hv hd
  simp only[Option.map_some,Gq.injEq]at hv
  simp only[G2,B8]at hd
  split at hd
  case isFalse=>cases hd
  rename_i h1
  unfold ko z6 at hp
  cases hk:r.ae.findIdx? (fun x=>decide (x.name=u.product))with
  |none=>rw[hk]at hp;cases hp
  |some k=>
   rw[hk]at hp
   have hp:r.ae[k]?=Gq p:=hp
   rw[Yo (u:={ u with shipped:=Gp }) hk hp]
   show(if(p.aM.length:Int)≠u.version∨u.version<1 then Gv else _)=Gp
   rw[if_neg (by omega)]
   show(match p.aM[(u.version-1).toNat]? with
    |none=>Gv
    |some d=>d.az.all fun t=>iW { u with shipped:=Gp } t)=Gp
   rw[hd]
   show(d.az.all fun t=>iW { u with shipped:=Gp } t)=Gp
   rw[G5]
   intro t ht
   have hf:(d.az.filter fun t=>!iW u t)=[]:=List.map_eq_nil_iff.1 hm
   have:=List.filter_eq_nil_iff.1 hf t ht
   have he:iW { u with shipped:=Gp } t=iW u t:=rfl
   rw[he]
   simpa using this
theorem jg2 {r:ju}(w:eX r){u v:aW}(hu:u∈r.units)(hv:v∈r.units)(hp:v.partner=u.name):v.name=u.partner∧v.product=u.product:=by
 have bB:v.partner≠[]:=by rw[hp];exact w.named u hu
 obtain⟨z,z0,z1,z2⟩:=w.gG v hv bB
 have:=Ap w.units z0 hu (z1.trans hp)
 subst this
 exact⟨z2.symm,w.kinds z hu v hv z2.symm⟩
theorem jgu {r:ju}(w:eX r){u:aW}(hu:u∈r.units)(hp:u.partner≠[]):∃v∈r.units,v.name=u.partner∧v.partner=u.name:=w.gG u hu hp
end Go.W
namespace Go.W
theorem qyr {wrap:Int→Int}{l m:List ek}{i:Nat}{h h':kl}(hr:yp wrap i h (l++m)=.ok h'):∃q,yp wrap i h l=.ok q∧yp wrap (i+l.length) q m=.ok h':=by
 rw[ZF]at hr
 cases hq:yp wrap i h l with
 |error x=>rw[hq]at hr;cases hr
 |ok q=>rw[hq]at hr;exact⟨q,rfl,hr⟩
theorem Ym {wrap:Int→Int}{l m:List ek}{h':kl}(hr:run wrap (l++m)=.ok h'):∃q,run wrap l=.ok q∧yp wrap l.length q m=.ok h':=by
 unfold run at hr ⊢
 split at hr
 ·cases hr
 rename_i hl
 rw[G0]at hl
 obtain⟨q,h1,h2⟩:=qyr hr
 rw[if_neg (by omega)]
 rw[Nat.zero_add]at h2
 exact⟨q,h1,h2⟩
theorem jr3 {wrap:Int→Int}{l:List ek}{h:kl}(hr:run wrap l=.ok h):l.length≤1000:=by
 unfold run at hr
 split at hr
 ·cases hr
 ·omega
theorem jk0 {wrap:Int→Int}{l:List ek}{h:kl}(hr:run wrap l=.ok h){i:Nat}{e:ek}(he:l[i]?=Gq e):∃q q',run wrap (l.take i)=.ok q∧run wrap (l.take (i+1))=.ok q'∧zf e=0∧accept wrap q ((i:Int)+1) e=.ok q':=by
 have br:=(Ey.1 he).1
 have hlen:=jr3 hr
 have h1:l.take (i+1)=l.take i++[e]:=by rw[List.take_add_one,he];rfl
 obtain⟨q',g1,_⟩:=Ym (l:=l.take (i+1)) (m:=l.drop (i+1)) (h':=h) (by rw[List.take_append_drop];exact hr)
 have g2:=g1
 rw[h1]at g2
 obtain⟨q,g3,_⟩:=Ym g2
 have hl:(l.take i).length=i:=by rw[List.length_take];omega
 rw[jnt g3 (by omega),hl]at g2
 refine⟨q,q',g3,g1,?_⟩
 split at g2
 ·cases g2
 rename_i hc
 refine⟨by simpa using hc,?_⟩
 split at g2
 ·cases g2
 ·rename_i hx;cases g2;exact hx
end Go.W
namespace Go.W
theorem qp3 {wrap:Int→Int}{h h':kl}{k:Int}{e:ek}(o:eH wrap h)(ha:accept wrap h k e=.ok h'):
  (e.kind≠mT∧after wrap (now h) e=.ok (now h'))∨(e.kind=mT∧∃c,c.kind≠kw∧after wrap (now h') c=.ok (now h)):=by
 unfold accept at ha
 split at ha
 ·cases ha
 split at ha
 ·rename_i hu
  refine .inr ⟨hu,?_⟩
  split at ha
  ·cases ha
  ·rename_i c hc
   split at ha
   ·cases ha
   rename_i hs
   cases ha
   have gR:0<h.1.length:=by
    cases hh:h.1 with
    |nil=>rw[hh]at hc;simp at hc
    |cons _ _=>simp
   have hl:=o.len
   have hn:=o.now
   have dU:h.1[h.1.length-1]?=Gq c:=by rw[←Gw];exact hc
   have hr:∃r,h.2[h.1.length-1]?=Gq r:=⟨_,I (by omega)⟩
   obtain⟨r,hr⟩:=hr
   obtain⟨r',k1,k2⟩:=o.next _ _ _ dU hr
   rw[show h.1.length-1+1=h.1.length by omega,hn]at k1
   cases k1
   refine⟨c,hs,?_⟩
   have:now (h.1.dropLast,h.2.dropLast)=r:=by
    unfold now
    show(h.2.dropLast.getLast?).getD mb=r
    rw[Gw,Gy,List.getElem?_dropLast,if_pos (by omega),show h.2.length-1-1=h.1.length-1 by omega,hr]
    rfl
   rw[this];exact k2
 ·rename_i hu
  split at ha
  ·cases ha
  ·rename_i r hr
   cases ha
   refine .inl ⟨hu,?_⟩
   rw[hr]
   congr 1
   unfold now
   simp
theorem qo8 {wrap:Int→Int}:∀ {l:List ek} {i:Nat} {h h':kl},h.1.length≤i→yp wrap i h l=.ok h'→h'.1.length≤i+l.length
 | [],i,h,h',hi,hr=>by simp only[yp]at hr;cases hr;simpa using hi
 |e::l,i,h,h',hi,hr=>by
  simp only[yp]at hr
  split at hr
  ·cases hr
  split at hr
  ·cases hr
  ·rename_i h1 ha
   have hl:h1.1.length≤i+1:=by
    unfold accept at ha
    split at ha
    ·cases ha
    split at ha
    ·split at ha
     ·cases ha
     ·split at ha
      ·cases ha
      cases ha
      show h.1.dropLast.length≤_
      rw[Gy];omega
    ·split at ha
     ·cases ha
     ·cases ha
      show(h.1++[e]).length≤_
      rw[G0,List.length_singleton];omega
   have:=qo8 hl hr
   rw[List.length_cons];omega
theorem je3 {wrap:Int→Int}{l:List ek}{h:kl}(hr:run wrap l=.ok h):h.1.length≤l.length:=by
 unfold run at hr
 split at hr
 ·cases hr
 ·have:=qo8 (Nat.le_refl 0) hr
  omega
def N8 (a u:aW):Prop:=u.version=a.version∧u.uses.length=a.uses.length∧u.results.length=a.results.length∧u.partner=a.partner
structure bZ (M:Str→aW)(S:ju):Prop where
 KS:∀n,(M n).name≠[]→∃u∈S.units,u.name=n∧u.shipped=Gp∧N8 (M n) u
 has:∀u∈S.units,u.shipped=Gp→(M u.name).name≠[]
theorem bZ.empty {M:Str→aW}(hM:∀n,(M n).name=[]){S:ju}(h:S.units=[]):bZ M S:=
 ⟨fun n hn=>absurd (hM n) hn,fun u hu=>by rw[h]at hu;cases hu⟩
theorem bZ.fwd {M:Str→aW}{r s:ju}(k:cI r s)(v:bZ M r):bZ M s:=by
 refine⟨fun n hn=>?_,fun y hy hs=>?_⟩
 ·obtain⟨u,u0,u1,u2,u3⟩:=v.KS n hn
  obtain⟨i,hi⟩:=Gn u0
  obtain⟨y,y1,y2⟩:=k.old i u hi
  obtain⟨a,b,c,d⟩:=y2.same u2
  exact⟨y,En y1,y2.name.trans u1,y2.shipped.trans u2,a.trans u3.1,by rw[b];exact u3.2.1,by rw[c];exact u3.2.2.1,d.trans u3.2.2.2⟩
 ·obtain⟨i,hi⟩:=Gn hy
  rcases Nat.lt_or_ge i r.units.length with hl|hl
  ·obtain⟨z,z1,z2⟩:=k.old i _ (I hl)
   rw[hi]at z1;cases z1
   rw[z2.name]
   exact v.has _ (Gs hl) (z2.shipped.symm.trans hs)
  ·rw[k.new i y hl hi]at hs;cases hs
theorem bZ.bwd {M:Str→aW}{r s:ju}(k:cI r s)(v:bZ M s):bZ M r:=by
 refine⟨fun n hn=>?_,fun x hx hs=>?_⟩
 ·obtain⟨y,y0,y1,y2,y3⟩:=v.KS n hn
  obtain⟨i,hi⟩:=Gn y0
  rcases Nat.lt_or_ge i r.units.length with hl|hl
  ·obtain⟨z,z1,z2⟩:=k.old i _ (I hl)
   rw[hi]at z1;cases z1
   have nA:=z2.shipped.symm.trans y2
   obtain⟨a,b,c,d⟩:=z2.same nA
   exact⟨_,Gs hl,z2.name.symm.trans y1,nA,a.symm.trans y3.1,by rw[←b];exact y3.2.1,by rw[←c];exact y3.2.2.1,d.symm.trans y3.2.2.2⟩
  ·rw[k.new i y hl hi]at y2;cases y2
 ·obtain⟨i,hi⟩:=Gn hx
  obtain⟨y,y1,y2⟩:=k.old i x hi
  rw[←y2.name]
  exact v.has y (En y1) (y2.shipped.trans hs)
def JW (M:Str→aW)(n:Str)(u:aW)(m:Str):aW:=if m=n then u else M m
theorem bZ.YP {M:Str→aW}{r r':ju}(w:eX r)(v:bZ M r){n:Str}{i:Nat}{u:aW}(hi:zp r n=Gq i)(hu:r.units[i]?=Gq u)(hr:r'.units=r.units.set i { u with shipped:=Gp }):bZ (JW M n { u with shipped:=Gp }) r':=by
 obtain⟨x,x1,x2,x3,_⟩:=bg hi
 rw[hu]at x1
 cases x1
 have hn:u.name=n:=by simpa using x2
 have br:i<r.units.length:=(Ey.1 hu).1
 have lS:r'.units[i]?=Gq { u with shipped:=Gp }:=by rw[hr,List.getElem?_set_self br]
 refine⟨fun m hm=>?_,fun y hy hs=>?_⟩
 ·unfold JW at hm ⊢
  by_cases h:m=n
  ·rw[if_pos h]at hm ⊢
   exact⟨_,En lS,by rw[h];exact hn,rfl,rfl,rfl,rfl,rfl⟩
  ·rw[if_neg h]at hm ⊢
   obtain⟨z,z0,z1,z2,z3⟩:=v.KS m hm
   obtain⟨j,hj⟩:=Gn z0
   have lL:i≠j:=by
    intro he;subst he
    rw[hu]at hj;cases hj
    exact h (z1.symm.trans hn)
   exact⟨z,En (i:=j) (by rw[hr,Gt lL];exact hj),z1,z2,z3⟩
 ·obtain⟨j,hj⟩:=Gn hy
  unfold JW
  by_cases lL:i=j
  ·subst lL
   rw[lS]at hj
   cases hj
   rw[if_pos hn]
   exact w.named u (En hu)
  ·rw[hr,Gt lL]at hj
   have bB:y.name≠n:=by
    rw[←hn]
    exact NP w.units hj hu (Ne.symm lL)
   rw[if_neg bB]
   exact v.has y (En hj) hs
theorem bZ.check {M:Str→aW}{S:ju}(w:eX S)(v:bZ M S){u:aW}(hu:u∈S.units):(u.shipped=Gp↔(M u.name).name≠[])∧(u.shipped=Gp→N8 (M u.name) u):=by
 refine⟨⟨v.has u hu,fun h=>?_⟩,fun h=>?_⟩
 ·obtain⟨y,y0,y1,y2,y3⟩:=v.KS _ h
  rw[←Ap w.units y0 hu y1];exact y2
 ·obtain⟨y,y0,y1,y2,y3⟩:=v.KS _ (v.has u hu h)
  have:=Ap w.units y0 hu y1
  subst this
  exact y3
theorem bZ.step {wrap:Int→Int}{M:Str→aW}{h h':kl}{k:Int}{e:ek}(o:eH wrap h)(ha:accept wrap h k e=.ok h')(hs:e.kind≠kw)(v:bZ M (now h)):bZ M (now h'):=by
 rcases qp3 o ha with⟨_,h1⟩|⟨_,c,c1,c2⟩
 ·exact v.fwd (qwe hs h1)
 ·exact v.bwd (qwe c1 c2)
theorem jew {r:ju}{u:aW}(w:eX r)(h:vS r u=Gv){x:jd}(hx:x∈r.lots)(hh:x.held=Gp):((u.uses.map (·.k)).any fun n=>decide (n=x.name))=Gv:=by
 rw[G1]
 intro n hn
 obtain⟨y,hy,rfl⟩:=List.mem_map.1 hn
 intro he
 have he:y.k=x.name:=by simpa using he
 unfold vS at h
 rw[G1]at h
 have h2:=h y hy
 have:mZ r y.k=Gq x:=by
  unfold mZ zt
  rw[he]
  cases hk:r.lots.findIdx? (fun z=>decide (z.name=x.name))with
  |none=>
   have:=(dk.1 hk) x hx
   simp at this
  |some k=>
   obtain⟨z,h1,h2,_⟩:=bg hk
   simp only[G2,h1]
   have:z.name=x.name:=by simpa using h2
   rw[Ap w.lots (En h1) hx this]
 rw[this]at h2
 exact h2 (by simpa using hh)
end Go.W
namespace Go.W
theorem q64 {wrap:Int→Int}{r r':ju}{e:ek}(ha:apply wrap r e=.ok r'):∀x∈r'.lots,(∃y∈r.lots,x.kind=y.kind)∨(e.kind=kH∧x.kind=nm e 1):=by
 have same:∀ {s:ju},s.lots=r.lots→∀x∈s.lots,(∃y∈r.lots,x.kind=y.kind)∨(e.kind=kH∧x.kind=nm e 1):=fun h x hx=>.inl ⟨x,by rw[←h];exact hx,rfl⟩
 have set:∀ {s:ju} {i:Nat} {y z:jd},s.lots=r.lots.set i z→r.lots[i]?=Gq y→z.kind=y.kind→∀x∈s.lots,(∃y∈r.lots,x.kind=y.kind)∨(e.kind=kH∧x.kind=nm e 1):=fun h hy hk x hx=>by
  rw[h]at hx
  rcases xh hx with hx|rfl
  ·exact .inl ⟨x,hx,rfl⟩
  ·exact .inl ⟨_,En hy,hk⟩
 unfold apply at ha
 split at ha
 ·unfold l6 at ha
  split at ha
  ·rename_i hk
   repeat' split at ha
   all_goals first|(cases ha;done)|skip
   cases ha
   intro x hx
   rcases List.mem_append.1 hx with hx|hx
   ·exact .inl ⟨x,hx,rfl⟩
   ·rw[Gz.1 hx];exact .inr ⟨hk,rfl⟩
  ·repeat' split at ha
   all_goals first|(cases ha;done)|(cases ha;exact same rfl)
 split at ha
 ·unfold ku at ha
  repeat' split at ha
  all_goals first|(cases ha;done)|(cases ha;exact same rfl)
 split at ha
 ·unfold pk at ha
  repeat' split at ha
  all_goals first|(cases ha;done)|skip
  all_goals (cases ha;exact set rfl (by assumption) (by rfl))
 unfold lF at ha
 split at ha
 ·cases ha
 split at ha
 ·cases ha
 split at ha
 ·unfold qC at ha
  repeat' split at ha
  all_goals first|(cases ha;done)|skip
  all_goals (cases ha;exact set rfl (by assumption) (by rfl))
 split at ha
 ·unfold qD at ha
  repeat' split at ha
  all_goals first|(cases ha;done)|(cases ha;exact same rfl)
 repeat' split at ha
 all_goals first|(cases ha;done)|(cases ha;exact same rfl)
theorem q8b {wrap:Int→Int}{r r':ju}{e:ek}(hc:zf e=0)(hr:∀x∈r.lots,cG x.kind=Gp)(h:after wrap r e=.ok r'):∀x∈r'.lots,cG x.kind=Gp:=by
 unfold after at h
 split at h
 ·cases h
 split at h
 ·cases h
 rename_i s hs
 cases h
 intro x hx
 rcases q64 hs x hx with⟨y,hy,hk⟩|⟨hk,hn⟩
 ·rw[hk];exact hr y hy
 ·rw[hn]
  unfold zf at hc
  split at hc
  ·cases hc
  rw[hk,show yt kH=Gq (2,2) by decide]at hc
  dsimp only at hc
  split at hc
  ·cases hc
  rename_i hl
  split at hc
  ·cases hc
  rename_i hs
  have hs:(e.names.all cG)=Gp:=by simpa using hs
  have hl:e.names.length=2:=by omega
  unfold nm
  rw[I (by omega)]
  exact G5.1 hs _ (Gs _)
theorem eH.oN {wrap:Int→Int}{h:kl}(o:eH wrap h):∀(j:Nat) (r:ju),h.2[j]?=Gq r→∀x∈r.lots,cG x.kind=Gp
 |0,r,hr=>by
  rw[o.first]at hr
  cases hr
  intro x hx;cases hx
 |j+1,r,hr=>by
  have br:=(Ey.1 hr).1
  have hl:=o.len
  have he:h.1[j]?=Gq h.1[j]:=I (by omega)
  have hp:h.2[j]?=Gq h.2[j]:=I (by omega)
  obtain⟨r',k1,k2⟩:=o.next j _ _ he hp
  rw[hr]at k1
  cases k1
  exact q8b (o.kinds _ (Gs _)).1 (o.oN j _ hp) k2
end Go.W
